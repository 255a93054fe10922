/-
  Parts of the proof: E11.
-/
import Derived.Test.YteeikgjjgfdjgaaGreatU6
set_option maxHeartbeats 8000000
set_option maxRecDepth 100000
section
namespace Go.Proofs.YteeikgjjgfdjgaaGreat.PK
open Go.RowKit YteeikgjjgfdjgaaGreatW.PrintWords YteeikgjjgfdjgaaGreatW.PrintLast YteeikgjjgfdjgaaGreatW.PrintMore
attribute [local go_sem] yco ycp yc5 yc4 yck ycl ycs yct
set_option linter.unusedVariables false
set_option linter.unusedSimpArgs false
mutual
def yag.j0:Nat→Int→List Int→Bool→Option (List Int×Int)
 | 0,_,_,_=>none
 | k+1,x0,x1,x16=>if x16=true then (some (([]:List Int),1)) else (if (x1.length:Int) > 4096 then (some (([]:List Int),4)) else ((yao.f k x1).bind fun t630=>(if t630 > x0 then (some (([]:List Int),10)) else (yag.l0 k x0 x1 (([]:List Int)) 0 0))))
def yag.l0:Nat→Int→List Int→List Int→Int→Int→Option (List Int×Int)
 | 0,_,_,_,_,_=>none
 | k+1,x0,x1,x6,x7,x8=>if x8<(x1.length:Int) then (if 0≤x8 then (yag.l1 k x0 x1 x6 x7 x8 (rd x1 x8) 0) else (none)) else (some (x6,0))
def yag.l1:Nat→Int→List Int→List Int→Int→Int→Int→Int→Option (List Int×Int)
 | 0,_,_,_,_,_,_,_=>none
 | k+1,x0,x1,x6,x7,x8,x9,x10=>if x10<x0 then (if (Int.tmod x7 8)=0 then (if x6.length<140737488355328 then ((some (x6++[0]:List Int)).bind fun y635=>(if 0≤(wrap64 (Int.tdiv x7 8)) then (if (wrap64 (Int.tdiv x7 8))<(y635.length:Int) then ((ybl.f k (Int.tmod x7 8)).bind fun t639=>(yag.l1 k x0 x1 (y635.set ((wrap64 (Int.tdiv x7 8)):Int).toNat (((rd y635 (wrap64 (Int.tdiv x7 8)))+((IntKind.u64.wrap ((Int.tmod x9 2)*t639))%256))%256)) (wrap64 (x7+1)) x8 (IntKind.u64.wrap (Int.tdiv x9 2)) (wrap64 (x10+1)))) else (none)) else (none))) else (none)) else (if 0≤(wrap64 (Int.tdiv x7 8)) then (if (wrap64 (Int.tdiv x7 8))<(x6.length:Int) then ((ybl.f k (Int.tmod x7 8)).bind fun t642=>(yag.l1 k x0 x1 (x6.set ((wrap64 (Int.tdiv x7 8)):Int).toNat (((rd x6 (wrap64 (Int.tdiv x7 8)))+((IntKind.u64.wrap ((Int.tmod x9 2)*t642))%256))%256)) (wrap64 (x7+1)) x8 (IntKind.u64.wrap (Int.tdiv x9 2)) (wrap64 (x10+1)))) else (none)) else (none))) else (yag.l0 k x0 x1 x6 x7 (wrap64 (x8+1)))
end
def yag.f (k:Nat) (a0:Int) (l1:List Int):Option (List Int×Int):=if a0<0 then (yag.j0 k a0 l1 true) else (yag.j0 k a0 l1 (decide (a0 > 64)))
def yag.T18:Bool×List (List Nat×List Nat):=(true,[([],[]),([],[]),([1],[1]),([],[]),([],[]),([4],[4]),([3,5],[3,5]),([6],[6]),([],[]),([8],[8]),([],[]),([10],[10]),([11],[11]),([9,12],[9,12]),([13],[13]),([7,14],[7,14]),([0,2,0,1,2,3,4,5,6,7,8,9,10,11,12,13,14,15],[0,2]),([16,15,12,0,1,2,3,4,5,6,7,8,9,10,11,12,13,14,15],[15,16])])
def yag.B18:List Nat:=[0,0,2,0,0,16,56,120,0,256,0,1024,3072,7936,16128,32760,65535,131071]
theorem yag.tab18:rtab .any (opsOf Tryz.f59 18)=yag.T18:=by kernel_rfl
theorem yag.bits18:yhh yag.T18.2 yag.B18=true:=by kernel_rfl
theorem yag.calls (k:Nat) (a0:Int) (A1:Option Addr) (c1:Nat) (l1:List Int) (r1:List Int) (r2:Int) (w:World) (hr1:Kd.C (Kd.int .u64) w A1 l1.length l1) (hc1:l1.length≤c1) (h:yag.f k a0 l1=some (r1,r2)) :
  Calls Tryz.prog 59 #[.int .i64 a0,.slice A1 l1.length c1] w fun e w'=>∃ v0_:Value,e=.returned (.tuple #[v0_,.int .i64 r2])∧Kd.R (Kd.int .u8) 5 w' w.heap.size (fun _=>True) v0_ r1∧Below w.heap.size w w':=by
 have HR1:=yaa.mk hr1
 have HC1:=yaa.mk hc1
 clear hr1 hc1
 have HB:=yaa.mk (Below.refl w.heap.size w)
 have H:(if a0<0 then (yag.j0 k a0 l1 true) else (yag.j0 k a0 l1 (decide (a0 > 64))))=some (r1,r2):=h
 clear h
 have HC3:=yaa.mk H
 clear H
 go_enter Tryz.func59,Tryz.ntmps59
 go_upto_region 1 with (fail)
 go_cut [16] (fun v16 wc=>∃ (kq:Nat) (x16_2:Bool),v16=.bool x16_2∧yaa (yag.j0 kq a0 l1 x16_2=some (r1,r2))∧yaa (kq≤k)∧yaa (Below w.heap.size w wc))
 case first =>
  have H:=HC3.out
  clear HC3
  by_cases c4:a0<0
  ·rw[if_pos c4] at H
   have c4b0:=decide_eq_true c4
   clear c4
   (first|rw[c4b0]|(simp only[ya4,yba];rw[c4b0])|skip)
   have H':=yaa.mk H
   clear H
   go_wp2
   go_meet
   case rel=>exact⟨_,(true),zF,H',⟨by first|omega|exact Nat.le_refl _⟩,⟨zB⟩⟩
  ·rw[if_neg c4] at H
   have c4b0:=decide_eq_false c4
   clear c4
   (first|rw[c4b0]|(simp only[ya4,yba];rw[c4b0])|skip)
   have H':=yaa.mk H
   clear H
   go_wp2
   go_meet
   case rel=>exact⟨_,(decide (a0 > 64)),zF,H',⟨by first|omega|exact Nat.le_refl _⟩,⟨zB⟩⟩
 case rest =>
  clear HC3
  try clear c1
  try clear p2
  try clear c4
  try clear c4b0
  obtain⟨kq,x16_2,rfl,HA,HJ2,HB⟩:=hcut
  cases kq with
  | zero=>exact absurd HA.out (by simp [yag.j0])
  | succ kj2 =>
   have H:=HA.out
   clear HA
   simp only[yag.j0] at H
   by_cases c5:x16_2=true
   ·subst c5
    have H1:(some (([]:List Int),1))=some (r1,r2):=by rw[if_pos rfl] at H;exact H
    clear H
    have H:=H1
    clear H1
    simp only[Option.some.injEq,Prod.mk.injEq] at H
    obtain⟨rfl,rfl⟩:=H
    go_wp2
    go_ret2
    exact⟨_,zG,zN,zB⟩
   ·replace c5:=Bool.eq_false_iff.mpr c5
    subst c5
    have H1:(if (l1.length:Int) > 4096 then (some (([]:List Int),4)) else ((yao.f kj2 l1).bind fun t630=>(if t630 > a0 then (some (([]:List Int),10)) else (yag.l0 kj2 a0 l1 (([]:List Int)) 0 0))))=some (r1,r2):=by rw[if_neg (show ¬ (false=true) by decide)] at H;exact H
    clear H
    have H:=H1
    clear H1
    by_cases c6:(l1.length:Int) > 4096
    ·rw[if_pos c6] at H
     have c6b0:decide (4096<(l1.length:Int))=true:=decide_eq_true c6
     have c6b1:decide (4096<l1.length)=true:=decide_eq_true (by omega)
     clear c6
     simp only[Option.some.injEq,Prod.mk.injEq] at H
     obtain⟨rfl,rfl⟩:=H
     go_wp2
     go_ret2
     exact⟨_,zG,zN,zB⟩
    ·rw[if_neg c6] at H
     have c6b0:decide (4096<(l1.length:Int))=false:=decide_eq_false c6
     have c6b1:decide (4096<l1.length)=false:=decide_eq_false (by omega)
     clear c6
     replace H:=Option.bind_eq_some_iff.mp H
     obtain⟨t630,A70,H⟩:=H
     try dsimp only at H
     have A7:=yaa.mk A70
     clear A70
     by_cases c8:t630 > a0
     ·rw[if_pos c8] at H
      have c8b0:decide (a0<t630)=true:=decide_eq_true c8
      clear c8
      simp only[Option.some.injEq,Prod.mk.injEq] at H
      obtain⟨rfl,rfl⟩:=H
      go_wp2_with (first|((with_reducible refine yah (f:=74) rfl ?_);refine ya6 (some 21) rfl rfl Tryz.func74 (by kernel_rfl) rfl #[.slice A1 l1.length c1] rfl zE ?_;(with_reducible refine(yao.calls kj2 _ _ l1 t630 _ ?side1 ?side2 A7.out).mono ?_);(case side1=>exact zC (Kd.C_below HR1.out HB.out));(case side2=>exact HC1.out);rintro e w' ⟨rfl,⟨nd,rfl⟩⟩;refine⟨_,rfl,?_⟩))
      go_ret2
      exact⟨_,zG,zN,zB⟩
     ·rw[if_neg c8] at H
      have c8b0:decide (a0<t630)=false:=decide_eq_false c8
      clear c8
      obtain⟨y631,hy631⟩:∃ y_:List Int,y_=(([]:List Int)):=⟨_,rfl⟩
      replace H:(yag.l0 kj2 a0 l1 y631 0 0)=some (r1,r2):=by first|(rw[hy631];with_reducible exact H)|(have H2_:=(Option.bind_some _ _).symm.trans H;rw[hy631];with_reducible exact H2_)|(have H2_:=(Option.bind_some _ _).symm.trans H;with_reducible exact H2_)|with_reducible exact H|(rw[hy631];exact H)|exact H
      have Ny631:=yaa.mk hy631
      clear hy631
      have H':=yaa.mk H
      clear H
      go_wp2_with (first|((with_reducible refine yah (f:=74) rfl ?_);refine ya6 (some 21) rfl rfl Tryz.func74 (by kernel_rfl) rfl #[.slice A1 l1.length c1] rfl zE ?_;(with_reducible refine(yao.calls kj2 _ _ l1 t630 _ ?side1 ?side2 A7.out).mono ?_);(case side1=>exact zC (Kd.C_below HR1.out HB.out));(case side2=>exact HC1.out);rintro e w' ⟨rfl,⟨nd,rfl⟩⟩;refine⟨_,rfl,?_⟩)|((with_reducible refine yb1 (N:=24) rfl ?_);refine Kd.R_lit (Kd.int .u8) _ 5 ?hg (N:=24) ?hd (xs:=([]:List Int)) (inner:=[]) (ok:=fun _=>True) (okp:=fun _=>True) ?hr ?hp (fun _ hk=>hk) trivial (Below.refl _ _) (Nat.le_refl _) (by simp) ?_;(case hd=>rfl);(case hg=>rfl);(case hr=>first|(go_simp;done)|(go_simp;rfl));(case hp=>exact(Reps.none _ _));intro v632 w9 ho10 hb hg_ hnew_;clear hg_ hnew_;(first|rw[← Ny631.out] at ho10|(simp only[Int.reduceToNat] at ho10;rw[← Ny631.out] at ho10));have n0_:=yaa.mk (Kd.R_lower ho10 (yac zB));have n1_:=yaa.mk (yai zB hb);clear HB;have HO633:=n0_;have HB:=n1_;clear n0_ n1_;clear hb ho10))
      go_loopg [6,7,8] kj2 (fun kq v6 v7 v8 w'=>∃ (x6_2:List Int) (x7_2:Int) (x8_2:Int),v7=.int .i64 x7_2∧v8=.int .i64 x8_2∧yaa (yag.l0 kq a0 l1 x6_2 x7_2 x8_2=some (r1,r2))∧yaa (kq≤kj2)∧yaa (Kd.R (Kd.int .u8) 5 w' w.heap.size (fun _=>True) v6 x6_2)∧yaa (Below w.heap.size w w'))
      case atStart=>exact⟨(y631),(0),(0),zF,zF,H',⟨Nat.le_refl _⟩,⟨zR HO633.out⟩,⟨zB⟩⟩
      case round =>
       clear H'
       try clear c1
       try clear p2
       try clear c4
       try clear c4b0
       try clear c5
       try clear c6
       try clear c6b0
       try clear c6b1
       try clear c7
       try clear c8
       try clear c8b0
       try clear p2
       obtain⟨x6_2,x7_2,x8_2,rfl,rfl,HA,HK2,HO_6,HB⟩:=hrel
       cases gk with
       | zero=>exact absurd HA.out (by simp [yag.l0])
       | succ k2 =>
        have H:=HA.out
        clear HA
        simp only[yag.l0] at H
        by_cases c11:x8_2<(l1.length:Int)
        ·rw[if_pos c11] at H
         have c11b0:=decide_eq_true c11
         clear c11
         by_cases c12:0≤x8_2
         ·rw[if_pos c12] at H
          have c12b0:=decide_eq_true c12
          clear c12
          have H':=yaa.mk H
          clear H
          have p634:0≤(x8_2:Int):=of_decide_eq_true zA
          have q634:x8_2<(l1.length:Int):=of_decide_eq_true zA
          obtain⟨ad634,e634,hx634_0⟩:=Kd.at_int HR1.out x8_2 p634 q634
          cases e634
          replace hx634_0:=(HB.out.cell (World.block_lt_of_cell? w _ hx634_0)).trans hx634_0
          replace p634:=eq_true p634
          replace q634:=eq_true q634
          go_wp2
          go_loopg [6,7,9,10] k2 (fun kq v6 v7 v9 v10 w'=>∃ (x6_3:List Int) (x7_3:Int) (x9_3:Int) (x10_3:Int),v7=.int .i64 x7_3∧v9=.int .u64 x9_3∧v10=.int .i64 x10_3∧yaa (yag.l1 kq a0 l1 x6_3 x7_3 x8_2 x9_3 x10_3=some (r1,r2))∧yaa (kq≤k2)∧yaa (Kd.R (Kd.int .u8) 5 w' w.heap.size (fun _=>True) v6 x6_3)∧yaa (Below w.heap.size w w'))
          case atStart=>exact⟨(x6_2),(x7_2),(rd l1 x8_2),(0),zF,zF,zF,H',⟨Nat.le_refl _⟩,⟨zR HO_6.out⟩,⟨zB⟩⟩
          case round =>
           clear H'
           try clear c1
           try clear p2
           try clear c4
           try clear c4b0
           try clear c5
           try clear c6
           try clear c6b0
           try clear c6b1
           try clear p6
           try clear q6
           try clear hx6
           try clear c7
           try clear c8
           try clear c8b0
           try clear c11
           try clear c11b0
           try clear c12
           try clear c12b0
           try clear hx634_0
           try clear p2
           try clear p634
           try clear q634
           obtain⟨x6_3,x7_3,x9_3,x10_3,rfl,rfl,rfl,HA,HK3,HO_6,HB⟩:=hrel
           cases gk with
           | zero=>exact absurd HA.out (by simp [yag.l1])
           | succ k3 =>
            have H:=HA.out
            clear HA
            simp only[yag.l1] at H
            by_cases c13:x10_3<a0
            ·rw[if_pos c13] at H
             have c13b0:=decide_eq_true c13
             clear c13
             by_cases c14:(Int.tmod x7_3 8)=0
             ·rw[if_pos c14] at H
              have c14b0:((Int.tmod x7_3 8) == 0)=true:=beq_iff_eq.mpr c14
              have c14b1:((Int.tmod x7_3 8) != 0)=false:=bne_eq_false_iff_eq.mpr c14
              clear c14
              by_cases c15:x6_3.length<140737488355328
              ·rw[if_pos c15] at H
               have LMc15:=yaa.mk c15
               clear c15
               obtain⟨y635,hy635⟩:∃ y_:List Int,y_=(x6_3++[0]):=⟨_,rfl⟩
               replace H:(if 0≤(wrap64 (Int.tdiv x7_3 8)) then (if (wrap64 (Int.tdiv x7_3 8))<(y635.length:Int) then ((ybl.f k3 (Int.tmod x7_3 8)).bind fun t639=>(yag.l1 k3 a0 l1 (y635.set ((wrap64 (Int.tdiv x7_3 8)):Int).toNat (((rd y635 (wrap64 (Int.tdiv x7_3 8)))+((IntKind.u64.wrap ((Int.tmod x9_3 2)*t639))%256))%256)) (wrap64 (x7_3+1)) x8_2 (IntKind.u64.wrap (Int.tdiv x9_3 2)) (wrap64 (x10_3+1)))) else (none)) else (none))=some (r1,r2):=by first|(rw[hy635];with_reducible exact H)|(have H2_:=(Option.bind_some _ _).symm.trans H;rw[hy635];with_reducible exact H2_)|(have H2_:=(Option.bind_some _ _).symm.trans H;with_reducible exact H2_)|with_reducible exact H|(rw[hy635];exact H)|exact H
               have Ny635:=yaa.mk hy635
               clear hy635
               obtain⟨ji16,hji16⟩:∃ j_:Int,(wrap64 (Int.tdiv x7_3 8))=j_:=⟨_,rfl⟩
               replace H:(if 0≤(ji16) then (if (ji16)<(y635.length:Int) then ((ybl.f k3 (Int.tmod x7_3 8)).bind fun t639=>(yag.l1 k3 a0 l1 (y635.set ((ji16):Int).toNat (((rd y635 (ji16))+((IntKind.u64.wrap ((Int.tmod x9_3 2)*t639))%256))%256)) (wrap64 (x7_3+1)) x8_2 (IntKind.u64.wrap (Int.tdiv x9_3 2)) (wrap64 (x10_3+1)))) else (none)) else (none))=some (r1,r2):=by first|(rw[hji16] at H;exact H)|(simp only[hji16] at H ⊢;exact H)
               have hji16w:(IntKind.i64.wrap (Int.tdiv x7_3 8))=ji16:=(ya4 _).trans hji16
               by_cases c17:0≤(ji16)
               ·rw[if_pos c17] at H
                have c17b0:=decide_eq_true c17
                clear c17
                by_cases c18:(ji16)<(y635.length:Int)
                ·rw[if_pos c18] at H
                 have c18b0:=decide_eq_true c18
                 clear c18
                 replace H:=Option.bind_eq_some_iff.mp H
                 obtain⟨t639,A190,H⟩:=H
                 try dsimp only at H
                 have A19:=yaa.mk A190
                 clear A190
                 obtain⟨y640,hy640⟩:∃ y_:List Int,y_=(y635.set ((ji16):Int).toNat (((rd y635 (ji16))+((IntKind.u64.wrap ((Int.tmod x9_3 2)*t639))%256))%256)):=⟨_,rfl⟩
                 replace H:(yag.l1 k3 a0 l1 y640 (wrap64 (x7_3+1)) x8_2 (IntKind.u64.wrap (Int.tdiv x9_3 2)) (wrap64 (x10_3+1)))=some (r1,r2):=by first|(rw[hy640];with_reducible exact H)|(have H2_:=(Option.bind_some _ _).symm.trans H;rw[hy640];with_reducible exact H2_)|(have H2_:=(Option.bind_some _ _).symm.trans H;with_reducible exact H2_)|with_reducible exact H|(rw[hy640];exact H)|exact H
                 have Ny640:=yaa.mk hy640
                 clear hy640
                 have H':=yaa.mk H
                 clear H
                 try go_wp2_with (first|((with_reducible refine ybe (b:=.append) (xs:=#[.tmp 43,.tmp 44]) rfl ?_);at_builtin;refine Kd.R_append (Kd.int .u8) (w0:=w) w.heap.size rfl (.tmp 43) (.tmp 44) 25 5 (.int .u8 0) 1 rfl Tryz.underlying25 yb9 rfl (by decide) (by omega) u6 x6_3 0 [.int .u8 0] (fun _=>True) (fun _=>False) rfl rfl ?aP (fun _ hk=>hk.elim) ?aF ?aO ?aB ?aS ?aL ?_;(case aP=>exact rfl);(case aB=>exact zB);(case aF=>exact fun _ _=>trivial);(case aO=>exact(zR HO_6.out));(case aS=>exact(yac zB));(case aL=>have:=LMc15.out;omega);intro v636 w21 ho hb hg hat;rw[← Ny635.out] at ho;have n0_:=yaa.mk (hb);have n1_:=yaa.mk (ho);clear HB;clear HO_6;have HB:=n0_;have HO637:=n1_;clear n0_ n1_;clear ho hb hg hat))
                 have n0_:=yaa.mk (Kd.R_drew HO637.out)
                 have n1_:=yaa.mk (ydf HB.out)
                 clear HO637
                 clear HB
                 have HO637:=n0_
                 have HB:=n1_
                 clear n0_ n1_
                 obtain⟨Ao23,co23,eo23⟩:=Kd.R_slice HO637.out
                 (first|subst eo23|(injection eo23 with f1_ f2_ f3_;have f4_:=f1_.symm;have f5_:=f3_.symm;clear f1_ f2_ f3_;subst f4_;subst f5_))
                 have p638:0≤((ji16):Int):=of_decide_eq_true zA
                 have q638:(ji16)<(y635.length:Int):=of_decide_eq_true zA
                 obtain⟨ad638,e638,hx638_0⟩:=Kd.at_int (Kd.R_reads' HO637.out).2.2 (ji16) p638 q638
                 cases e638
                 replace p638:=eq_true p638
                 replace q638:=eq_true q638
                 refine ykk (n:=18) (S:=fun w'=>w'.cell? (ad638.add ((ji16)).toNat)=some (.int .u8 (rd y635 (ji16)))) (ds:=[17]) #[false,false,false,false,false,false,false,false,false,false,false,false,false,false,false,false,false,false] (by kernel_rfl) rfl rfl (hx638_0) (fun hHeld=>?_);refine yhx yag.tab18 yag.bits18 (fun HT_ HW_=>?_)
                 generalize w21.drew=w22 at HO637 HB hx638_0 hHeld ⊢
                 refine ycc (i:=0) (N:=some 46) (v:=?_) (a':=?_) #[true,false,false,false,false,false,false,false,false,false,false,false,false,false,false,false,false,false] rfl rfl (yby HT_.out (by kernel_rfl)) (fun _ _ _ h=>h) (Or.inl ⟨by rfl,?_⟩) ?_ ?_
                 rotate_left
                 ·intro w'
                  go_simp
                  with_reducible rfl
                 rotate_left
                 ·simp only[Act.put,List.setIfInBounds_toArray,List.set_cons_zero,List.set_cons_succ,ya4,yba]
                  rfl
                 refine ycc (i:=1) (N:=some 47) (v:=?_) (a':=?_) #[true,true,false,false,false,false,false,false,false,false,false,false,false,false,false,false,false,false] rfl rfl (yby HT_.out (by kernel_rfl)) (fun _ _ _ h=>h) (Or.inl ⟨by rfl,?_⟩) ?_ ?_
                 rotate_left
                 ·intro w'
                  go_simp
                  with_reducible rfl
                 rotate_left
                 ·simp only[Act.put,List.setIfInBounds_toArray,List.set_cons_zero,List.set_cons_succ,ya4,yba]
                  rfl
                 refine ycc (i:=2) (N:=some 48) (v:=?_) (a':=?_) #[true,true,true,false,false,false,false,false,false,false,false,false,false,false,false,false,false,false] rfl rfl (yby HT_.out (by kernel_rfl)) (fun _ _ _ h=>h) (Or.inl ⟨by rfl,?_⟩) ?_ ?_
                 rotate_left
                 ·intro w'
                  go_simp
                  with_reducible rfl
                 rotate_left
                 ·simp only[Act.put,List.setIfInBounds_toArray,List.set_cons_zero,List.set_cons_succ,ya4,yba]
                  rfl
                 refine ycc (i:=3) (N:=some 49) (v:=?_) (a':=?_) #[true,true,true,true,false,false,false,false,false,false,false,false,false,false,false,false,false,false] rfl rfl (yby HT_.out (by kernel_rfl)) (fun _ _ _ h=>h) (Or.inl ⟨by rfl,?_⟩) ?_ ?_
                 rotate_left
                 ·intro w'
                  go_simp
                  with_reducible rfl
                 rotate_left
                 ·simp only[Act.put,List.setIfInBounds_toArray,List.set_cons_zero,List.set_cons_succ,ya4,yba]
                  rfl
                 refine ycc (i:=4) (N:=some 50) (v:=?_) (a':=?_) #[true,true,true,true,true,false,false,false,false,false,false,false,false,false,false,false,false,false] rfl rfl (yby HT_.out (by kernel_rfl)) (fun _ _ _ h=>h) (Or.inl ⟨by rfl,?_⟩) ?_ ?_
                 rotate_left
                 ·intro w'
                  go_simp
                  with_reducible rfl
                 rotate_left
                 ·simp only[Act.put,List.setIfInBounds_toArray,List.set_cons_zero,List.set_cons_succ,ya4,yba]
                  rfl
                 refine ycc (i:=5) (N:=some 51) (v:=?_) (a':=?_) #[true,true,true,true,true,true,false,false,false,false,false,false,false,false,false,false,false,false] rfl rfl (yby HT_.out (by kernel_rfl)) (fun _ _ _ h=>h) (Or.inl ⟨by rfl,?_⟩) ?_ ?_
                 rotate_left
                 ·intro w'
                  go_simp
                  with_reducible rfl
                 rotate_left
                 ·simp only[Act.put,List.setIfInBounds_toArray,List.set_cons_zero,List.set_cons_succ,ya4,yba]
                  rfl
                 refine ycc (i:=6) (N:=some 52) (v:=?_) (a':=?_) #[true,true,true,true,true,true,true,false,false,false,false,false,false,false,false,false,false,false] rfl rfl (yby HT_.out (by kernel_rfl)) (fun _ _ _ h=>h) (Or.inl ⟨by rfl,?_⟩) ?_ ?_
                 rotate_left
                 ·intro w'
                  go_simp
                  with_reducible rfl
                 rotate_left
                 ·simp only[Act.put,List.setIfInBounds_toArray,List.set_cons_zero,List.set_cons_succ,ya4,yba]
                  rfl
                 refine ycc (i:=8) (N:=some 54) (v:=?_) (a':=?_) #[true,true,true,true,true,true,true,false,true,false,false,false,false,false,false,false,false,false] rfl rfl (yby HT_.out (by kernel_rfl)) (fun _ _ _ h=>h) (Or.inl ⟨by rfl,?_⟩) ?_ ?_
                 rotate_left
                 ·intro w'
                  go_simp
                  with_reducible rfl
                 rotate_left
                 ·simp only[Act.put,List.setIfInBounds_toArray,List.set_cons_zero,List.set_cons_succ,ya4,yba]
                  rfl
                 refine ycc (i:=9) (N:=some 55) (v:=?_) (a':=?_) #[true,true,true,true,true,true,true,false,true,true,false,false,false,false,false,false,false,false] rfl rfl (yby HT_.out (by kernel_rfl)) (fun _ _ _ h=>h) (Or.inl ⟨by rfl,?_⟩) ?_ ?_
                 rotate_left
                 ·intro w'
                  go_simp
                  with_reducible rfl
                 rotate_left
                 ·simp only[Act.put,List.setIfInBounds_toArray,List.set_cons_zero,List.set_cons_succ,ya4,yba]
                  rfl
                 refine ycc (i:=10) (N:=some 56) (v:=?_) (a':=?_) #[true,true,true,true,true,true,true,false,true,true,true,false,false,false,false,false,false,false] rfl rfl (yby HT_.out (by kernel_rfl)) (fun _ _ _ h=>h) (Or.inl ⟨by rfl,?_⟩) ?_ ?_
                 rotate_left
                 ·intro w'
                  go_simp
                  with_reducible rfl
                 rotate_left
                 ·simp only[Act.put,List.setIfInBounds_toArray,List.set_cons_zero,List.set_cons_succ,ya4,yba]
                  rfl
                 refine ycc (i:=11) (N:=some 57) (v:=?_) (a':=?_) #[true,true,true,true,true,true,true,false,true,true,true,true,false,false,false,false,false,false] rfl rfl (yby HT_.out (by kernel_rfl)) (fun _ _ _ h=>h) (Or.inl ⟨by rfl,?_⟩) ?_ ?_
                 rotate_left
                 ·intro w'
                  go_simp
                  with_reducible rfl
                 rotate_left
                 ·simp only[Act.put,List.setIfInBounds_toArray,List.set_cons_zero,List.set_cons_succ,ya4,yba]
                  rfl
                 refine take_ (i:=7) (N:=some 53) (v:=?_) (a':=?_) #[true,true,true,true,true,true,true,true,true,true,true,true,false,false,false,false,false,false] rfl rfl (ygl HT_.out HW_.out (by kernel_rfl)) (fun _ _ _ h=>h) (Or.inl ⟨by rfl,?_⟩) hHeld ?_ ?_
                 rotate_left
                 ·intro w' s0
                  go_simp
                  with_reducible rfl
                 rotate_left
                 ·simp only[Act.put,List.setIfInBounds_toArray,List.set_cons_zero,List.set_cons_succ,ya4,yba]
                  rfl
                 refine one_ (i:=12) (N:=some 58) #[true,true,true,true,true,true,true,true,true,true,true,true,true,false,false,false,false,false] rfl rfl (yhd HT_.out (by kernel_rfl)) (by decide) (fun K hK=>?_)
                 refine goes_ Tryz.func94 (by kernel_rfl) rfl #[.int .i64 (Int.tmod x7_3 8)] (by rfl) rfl rfl zE ?_
                 with_reducible refine(ybl.calls k3 (Int.tmod x7_3 8) t639 _ A19.out).mono ?_
                 rintro e w' ⟨rfl,⟨nd,rfl⟩⟩
                 refine⟨_,rfl,?_⟩
                 have p20:0≤((ji16):Int):=of_decide_eq_true zA
                 have q20:((ji16):Int)<((y635.length:Int):Int):=of_decide_eq_true zA
                 obtain⟨go20,co20,eo20,gb20,gl20,cl20,HG20⟩:=Kd.R_form HO637.out (by omega)
                 (first|cases eo20|(injection eo20 with ea_ en_ ec_;(first|subst ea_|(injection ea_ with ea_;subst ea_));subst ec_;clear en_))
                 have GB20:=yaa.mk gb20
                 have GG20:=yaa.mk HG20
                 clear gb20 gl20 HG20
                 (first|simp only[yc7] at hx638_0|skip)
                 obtain⟨hx20_0,hf20_0⟩:=Kd.R_celln 0 HO637.out ((ji16):Int) p20 q20
                 replace p20:=eq_true p20
                 replace q20:=eq_true q20
                 have HP24:=Kd.R_putn HO637.out ((ji16):Int) (((rd y635 (ji16))+((IntKind.u64.wrap ((Int.tmod x9_3 2)*t639))%256))%256)
                 rw[← Ny640.out] at HP24
                 have HQ24:=yaa.mk HP24
                 clear HP24
                 refine hK.out _ _ (hHeld) (fun hHeld=>?_)
                 clear hK K
                 refine yjr (a':=?_) ?_ ?_
                 rotate_left
                 ·show Act.put _ (some 58) _=_
                  simp only[Act.put,List.setIfInBounds_toArray,List.set_cons_zero,List.set_cons_succ,ya4,yba]
                  rfl
                 refine ycc (i:=13) (N:=some 59) (v:=?_) (a':=?_) #[true,true,true,true,true,true,true,true,true,true,true,true,true,true,false,false,false,false] rfl rfl (yby HT_.out (by kernel_rfl)) (fun _ _ _ h=>h) (Or.inl ⟨by rfl,?_⟩) ?_ ?_
                 rotate_left
                 ·intro w'
                  go_simp
                  with_reducible rfl
                 rotate_left
                 ·simp only[Act.put,List.setIfInBounds_toArray,List.set_cons_zero,List.set_cons_succ,ya4,yba]
                  rfl
                 refine ycc (i:=14) (N:=some 60) (v:=?_) (a':=?_) #[true,true,true,true,true,true,true,true,true,true,true,true,true,true,true,false,false,false] rfl rfl (yby HT_.out (by kernel_rfl)) (fun _ _ _ h=>h) (Or.inl ⟨by rfl,?_⟩) ?_ ?_
                 rotate_left
                 ·intro w'
                  go_simp
                  with_reducible rfl
                 rotate_left
                 ·simp only[Act.put,List.setIfInBounds_toArray,List.set_cons_zero,List.set_cons_succ,ya4,yba]
                  rfl
                 refine ycc (i:=15) (N:=some 61) (v:=?_) (a':=?_) #[true,true,true,true,true,true,true,true,true,true,true,true,true,true,true,true,false,false] rfl rfl (yby HT_.out (by kernel_rfl)) (fun _ _ _ h=>h) (Or.inl ⟨by rfl,?_⟩) ?_ ?_
                 rotate_left
                 ·intro w'
                  go_simp
                  with_reducible rfl
                 rotate_left
                 ·simp only[Act.put,List.setIfInBounds_toArray,List.set_cons_zero,List.set_cons_succ,ya4,yba]
                  rfl
                 refine ycc (i:=16) (N:=some 62) (v:=?_) (a':=?_) #[true,true,true,true,true,true,true,true,true,true,true,true,true,true,true,true,true,false] rfl rfl (yby HT_.out (by kernel_rfl)) (fun _ _ _ h=>h) (Or.inl ⟨by rfl,?_⟩) ?_ ?_
                 rotate_left
                 ·intro w'
                  go_simp
                  with_reducible rfl
                 rotate_left
                 ·simp only[Act.put,List.setIfInBounds_toArray,List.set_cons_zero,List.set_cons_succ,ya4,yba]
                  rfl
                 refine last_ (i:=17) (N:=none) #[true,true,true,true,true,true,true,true,true,true,true,true,true,true,true,true,true,true] rfl rfl (yhd HT_.out (by kernel_rfl)) (by decide) (fun K hK=>?_)
                 refine skip_ (w1:=?_) (by rfl) rfl ?_ ?_
                 rotate_left
                 ·go_simp
                  rfl
                 refine hK.out _ _ ?_
                 clear hK K
                 refine done_ (yjd HT_.out (by kernel_rfl)) ?_
                 try go_wp2
                 go_roundg k3
                 case measure=>have:=HJ2.out;have:=HK2.out;have:=HK3.out;omega
                 case rel=>exact⟨(y640),(wrap64 (x7_3+1)),(IntKind.u64.wrap (Int.tdiv x9_3 2)),(wrap64 (x10_3+1)),zF,zF,zF,H',⟨by have:=HJ2.out;have:=HK2.out;have:=HK3.out;omega⟩,⟨by first|((with_reducible repeat (first|apply Kd.R_alloc|apply Kd.R_drewN|apply Kd.R_drew));exact HQ24.out)|(have h9:=HQ24.out;have m9:∀ a b:Int,(a+b%256)%256=(a+b)%256:=(by intros;omega);rw[m9] at h9;exact Kd.R_move h9 (fun _ _=>rfl))⟩,⟨by repeat (first|(with_reducible first|exact HB.out|apply yak|apply yab|apply ydf|refine ydu ?_ GB20.out)|exact HB.out)⟩⟩
                ·rw[if_neg c18] at H
                 exact absurd H (by simp)
               ·rw[if_neg c17] at H
                exact absurd H (by simp)
              ·rw[if_neg c15] at H
               exact absurd H (by simp)
             ·rw[if_neg c14] at H
              have c14b0:((Int.tmod x7_3 8) == 0)=false:=beq_eq_false_iff_ne.mpr c14
              have c14b1:((Int.tmod x7_3 8) != 0)=true:=bne_iff_ne.mpr c14
              obtain⟨ji25,hji25⟩:∃ j_:Int,(wrap64 (Int.tdiv x7_3 8))=j_:=⟨_,rfl⟩
              replace H:(if 0≤(ji25) then (if (ji25)<(x6_3.length:Int) then ((ybl.f k3 (Int.tmod x7_3 8)).bind fun t642=>(yag.l1 k3 a0 l1 (x6_3.set ((ji25):Int).toNat (((rd x6_3 (ji25))+((IntKind.u64.wrap ((Int.tmod x9_3 2)*t642))%256))%256)) (wrap64 (x7_3+1)) x8_2 (IntKind.u64.wrap (Int.tdiv x9_3 2)) (wrap64 (x10_3+1)))) else (none)) else (none))=some (r1,r2):=by first|(rw[hji25] at H;exact H)|(simp only[hji25] at H ⊢;exact H)
              have hji25w:(IntKind.i64.wrap (Int.tdiv x7_3 8))=ji25:=(ya4 _).trans hji25
              by_cases c26:0≤(ji25)
              ·rw[if_pos c26] at H
               have c26b0:=decide_eq_true c26
               clear c26
               by_cases c27:(ji25)<(x6_3.length:Int)
               ·rw[if_pos c27] at H
                have c27b0:=decide_eq_true c27
                clear c27
                replace H:=Option.bind_eq_some_iff.mp H
                obtain⟨t642,A280,H⟩:=H
                try dsimp only at H
                have A28:=yaa.mk A280
                clear A280
                obtain⟨y643,hy643⟩:∃ y_:List Int,y_=(x6_3.set ((ji25):Int).toNat (((rd x6_3 (ji25))+((IntKind.u64.wrap ((Int.tmod x9_3 2)*t642))%256))%256)):=⟨_,rfl⟩
                replace H:(yag.l1 k3 a0 l1 y643 (wrap64 (x7_3+1)) x8_2 (IntKind.u64.wrap (Int.tdiv x9_3 2)) (wrap64 (x10_3+1)))=some (r1,r2):=by first|(rw[hy643];with_reducible exact H)|(have H2_:=(Option.bind_some _ _).symm.trans H;rw[hy643];with_reducible exact H2_)|(have H2_:=(Option.bind_some _ _).symm.trans H;with_reducible exact H2_)|with_reducible exact H|(rw[hy643];exact H)|exact H
                have Ny643:=yaa.mk hy643
                clear hy643
                have H':=yaa.mk H
                clear H
                try go_wp2
                have n0_:=yaa.mk (Kd.R_drew HO_6.out)
                have n1_:=yaa.mk (ydf HB.out)
                clear HO_6
                clear HB
                have HO_6:=n0_
                have HB:=n1_
                clear n0_ n1_
                obtain⟨Ao31,co31,eo31⟩:=Kd.R_slice HO_6.out
                (first|subst eo31|(injection eo31 with f1_ f2_ f3_;have f4_:=f1_.symm;have f5_:=f3_.symm;clear f1_ f2_ f3_;subst f4_;subst f5_))
                have p641:0≤((ji25):Int):=of_decide_eq_true zA
                have q641:(ji25)<(x6_3.length:Int):=of_decide_eq_true zA
                obtain⟨ad641,e641,hx641_0⟩:=Kd.at_int (Kd.R_reads' HO_6.out).2.2 (ji25) p641 q641
                cases e641
                replace p641:=eq_true p641
                replace q641:=eq_true q641
                refine ykk (n:=18) (S:=fun w'=>w'.cell? (ad641.add ((ji25)).toNat)=some (.int .u8 (rd x6_3 (ji25)))) (ds:=[17]) #[false,false,false,false,false,false,false,false,false,false,false,false,false,false,false,false,false,false] (by kernel_rfl) rfl rfl (hx641_0) (fun hHeld=>?_);refine yhx yag.tab18 yag.bits18 (fun HT_ HW_=>?_)
                generalize wr.drew=w30 at HO_6 HB hx641_0 hHeld ⊢
                refine ycc (i:=0) (N:=some 46) (v:=?_) (a':=?_) #[true,false,false,false,false,false,false,false,false,false,false,false,false,false,false,false,false,false] rfl rfl (yby HT_.out (by kernel_rfl)) (fun _ _ _ h=>h) (Or.inl ⟨by rfl,?_⟩) ?_ ?_
                rotate_left
                ·intro w'
                 go_simp
                 with_reducible rfl
                rotate_left
                ·simp only[Act.put,List.setIfInBounds_toArray,List.set_cons_zero,List.set_cons_succ,ya4,yba]
                 rfl
                refine ycc (i:=1) (N:=some 47) (v:=?_) (a':=?_) #[true,true,false,false,false,false,false,false,false,false,false,false,false,false,false,false,false,false] rfl rfl (yby HT_.out (by kernel_rfl)) (fun _ _ _ h=>h) (Or.inl ⟨by rfl,?_⟩) ?_ ?_
                rotate_left
                ·intro w'
                 go_simp
                 with_reducible rfl
                rotate_left
                ·simp only[Act.put,List.setIfInBounds_toArray,List.set_cons_zero,List.set_cons_succ,ya4,yba]
                 rfl
                refine ycc (i:=2) (N:=some 48) (v:=?_) (a':=?_) #[true,true,true,false,false,false,false,false,false,false,false,false,false,false,false,false,false,false] rfl rfl (yby HT_.out (by kernel_rfl)) (fun _ _ _ h=>h) (Or.inl ⟨by rfl,?_⟩) ?_ ?_
                rotate_left
                ·intro w'
                 go_simp
                 with_reducible rfl
                rotate_left
                ·simp only[Act.put,List.setIfInBounds_toArray,List.set_cons_zero,List.set_cons_succ,ya4,yba]
                 rfl
                refine ycc (i:=3) (N:=some 49) (v:=?_) (a':=?_) #[true,true,true,true,false,false,false,false,false,false,false,false,false,false,false,false,false,false] rfl rfl (yby HT_.out (by kernel_rfl)) (fun _ _ _ h=>h) (Or.inl ⟨by rfl,?_⟩) ?_ ?_
                rotate_left
                ·intro w'
                 go_simp
                 with_reducible rfl
                rotate_left
                ·simp only[Act.put,List.setIfInBounds_toArray,List.set_cons_zero,List.set_cons_succ,ya4,yba]
                 rfl
                refine ycc (i:=4) (N:=some 50) (v:=?_) (a':=?_) #[true,true,true,true,true,false,false,false,false,false,false,false,false,false,false,false,false,false] rfl rfl (yby HT_.out (by kernel_rfl)) (fun _ _ _ h=>h) (Or.inl ⟨by rfl,?_⟩) ?_ ?_
                rotate_left
                ·intro w'
                 go_simp
                 with_reducible rfl
                rotate_left
                ·simp only[Act.put,List.setIfInBounds_toArray,List.set_cons_zero,List.set_cons_succ,ya4,yba]
                 rfl
                refine ycc (i:=5) (N:=some 51) (v:=?_) (a':=?_) #[true,true,true,true,true,true,false,false,false,false,false,false,false,false,false,false,false,false] rfl rfl (yby HT_.out (by kernel_rfl)) (fun _ _ _ h=>h) (Or.inl ⟨by rfl,?_⟩) ?_ ?_
                rotate_left
                ·intro w'
                 go_simp
                 with_reducible rfl
                rotate_left
                ·simp only[Act.put,List.setIfInBounds_toArray,List.set_cons_zero,List.set_cons_succ,ya4,yba]
                 rfl
                refine ycc (i:=6) (N:=some 52) (v:=?_) (a':=?_) #[true,true,true,true,true,true,true,false,false,false,false,false,false,false,false,false,false,false] rfl rfl (yby HT_.out (by kernel_rfl)) (fun _ _ _ h=>h) (Or.inl ⟨by rfl,?_⟩) ?_ ?_
                rotate_left
                ·intro w'
                 go_simp
                 with_reducible rfl
                rotate_left
                ·simp only[Act.put,List.setIfInBounds_toArray,List.set_cons_zero,List.set_cons_succ,ya4,yba]
                 rfl
                refine ycc (i:=8) (N:=some 54) (v:=?_) (a':=?_) #[true,true,true,true,true,true,true,false,true,false,false,false,false,false,false,false,false,false] rfl rfl (yby HT_.out (by kernel_rfl)) (fun _ _ _ h=>h) (Or.inl ⟨by rfl,?_⟩) ?_ ?_
                rotate_left
                ·intro w'
                 go_simp
                 with_reducible rfl
                rotate_left
                ·simp only[Act.put,List.setIfInBounds_toArray,List.set_cons_zero,List.set_cons_succ,ya4,yba]
                 rfl
                refine ycc (i:=9) (N:=some 55) (v:=?_) (a':=?_) #[true,true,true,true,true,true,true,false,true,true,false,false,false,false,false,false,false,false] rfl rfl (yby HT_.out (by kernel_rfl)) (fun _ _ _ h=>h) (Or.inl ⟨by rfl,?_⟩) ?_ ?_
                rotate_left
                ·intro w'
                 go_simp
                 with_reducible rfl
                rotate_left
                ·simp only[Act.put,List.setIfInBounds_toArray,List.set_cons_zero,List.set_cons_succ,ya4,yba]
                 rfl
                refine ycc (i:=10) (N:=some 56) (v:=?_) (a':=?_) #[true,true,true,true,true,true,true,false,true,true,true,false,false,false,false,false,false,false] rfl rfl (yby HT_.out (by kernel_rfl)) (fun _ _ _ h=>h) (Or.inl ⟨by rfl,?_⟩) ?_ ?_
                rotate_left
                ·intro w'
                 go_simp
                 with_reducible rfl
                rotate_left
                ·simp only[Act.put,List.setIfInBounds_toArray,List.set_cons_zero,List.set_cons_succ,ya4,yba]
                 rfl
                refine ycc (i:=11) (N:=some 57) (v:=?_) (a':=?_) #[true,true,true,true,true,true,true,false,true,true,true,true,false,false,false,false,false,false] rfl rfl (yby HT_.out (by kernel_rfl)) (fun _ _ _ h=>h) (Or.inl ⟨by rfl,?_⟩) ?_ ?_
                rotate_left
                ·intro w'
                 go_simp
                 with_reducible rfl
                rotate_left
                ·simp only[Act.put,List.setIfInBounds_toArray,List.set_cons_zero,List.set_cons_succ,ya4,yba]
                 rfl
                refine take_ (i:=7) (N:=some 53) (v:=?_) (a':=?_) #[true,true,true,true,true,true,true,true,true,true,true,true,false,false,false,false,false,false] rfl rfl (ygl HT_.out HW_.out (by kernel_rfl)) (fun _ _ _ h=>h) (Or.inl ⟨by rfl,?_⟩) hHeld ?_ ?_
                rotate_left
                ·intro w' s0
                 go_simp
                 with_reducible rfl
                rotate_left
                ·simp only[Act.put,List.setIfInBounds_toArray,List.set_cons_zero,List.set_cons_succ,ya4,yba]
                 rfl
                refine one_ (i:=12) (N:=some 58) #[true,true,true,true,true,true,true,true,true,true,true,true,true,false,false,false,false,false] rfl rfl (yhd HT_.out (by kernel_rfl)) (by decide) (fun K hK=>?_)
                refine goes_ Tryz.func94 (by kernel_rfl) rfl #[.int .i64 (Int.tmod x7_3 8)] (by rfl) rfl rfl zE ?_
                with_reducible refine(ybl.calls k3 (Int.tmod x7_3 8) t642 _ A28.out).mono ?_
                rintro e w' ⟨rfl,⟨nd,rfl⟩⟩
                refine⟨_,rfl,?_⟩
                have p29:0≤((ji25):Int):=of_decide_eq_true zA
                have q29:((ji25):Int)<((x6_3.length:Int):Int):=of_decide_eq_true zA
                obtain⟨go29,co29,eo29,gb29,gl29,cl29,HG29⟩:=Kd.R_form HO_6.out (by omega)
                (first|cases eo29|(injection eo29 with ea_ en_ ec_;(first|subst ea_|(injection ea_ with ea_;subst ea_));subst ec_;clear en_))
                have GB29:=yaa.mk gb29
                have GG29:=yaa.mk HG29
                clear gb29 gl29 HG29
                (first|simp only[yc7] at hx641_0|skip)
                obtain⟨hx29_0,hf29_0⟩:=Kd.R_celln 0 HO_6.out ((ji25):Int) p29 q29
                replace p29:=eq_true p29
                replace q29:=eq_true q29
                have HP32:=Kd.R_putn HO_6.out ((ji25):Int) (((rd x6_3 (ji25))+((IntKind.u64.wrap ((Int.tmod x9_3 2)*t642))%256))%256)
                rw[← Ny643.out] at HP32
                have HQ32:=yaa.mk HP32
                clear HP32
                refine hK.out _ _ (hHeld) (fun hHeld=>?_)
                clear hK K
                refine yjr (a':=?_) ?_ ?_
                rotate_left
                ·show Act.put _ (some 58) _=_
                 simp only[Act.put,List.setIfInBounds_toArray,List.set_cons_zero,List.set_cons_succ,ya4,yba]
                 rfl
                refine ycc (i:=13) (N:=some 59) (v:=?_) (a':=?_) #[true,true,true,true,true,true,true,true,true,true,true,true,true,true,false,false,false,false] rfl rfl (yby HT_.out (by kernel_rfl)) (fun _ _ _ h=>h) (Or.inl ⟨by rfl,?_⟩) ?_ ?_
                rotate_left
                ·intro w'
                 go_simp
                 with_reducible rfl
                rotate_left
                ·simp only[Act.put,List.setIfInBounds_toArray,List.set_cons_zero,List.set_cons_succ,ya4,yba]
                 rfl
                refine ycc (i:=14) (N:=some 60) (v:=?_) (a':=?_) #[true,true,true,true,true,true,true,true,true,true,true,true,true,true,true,false,false,false] rfl rfl (yby HT_.out (by kernel_rfl)) (fun _ _ _ h=>h) (Or.inl ⟨by rfl,?_⟩) ?_ ?_
                rotate_left
                ·intro w'
                 go_simp
                 with_reducible rfl
                rotate_left
                ·simp only[Act.put,List.setIfInBounds_toArray,List.set_cons_zero,List.set_cons_succ,ya4,yba]
                 rfl
                refine ycc (i:=15) (N:=some 61) (v:=?_) (a':=?_) #[true,true,true,true,true,true,true,true,true,true,true,true,true,true,true,true,false,false] rfl rfl (yby HT_.out (by kernel_rfl)) (fun _ _ _ h=>h) (Or.inl ⟨by rfl,?_⟩) ?_ ?_
                rotate_left
                ·intro w'
                 go_simp
                 with_reducible rfl
                rotate_left
                ·simp only[Act.put,List.setIfInBounds_toArray,List.set_cons_zero,List.set_cons_succ,ya4,yba]
                 rfl
                refine ycc (i:=16) (N:=some 62) (v:=?_) (a':=?_) #[true,true,true,true,true,true,true,true,true,true,true,true,true,true,true,true,true,false] rfl rfl (yby HT_.out (by kernel_rfl)) (fun _ _ _ h=>h) (Or.inl ⟨by rfl,?_⟩) ?_ ?_
                rotate_left
                ·intro w'
                 go_simp
                 with_reducible rfl
                rotate_left
                ·simp only[Act.put,List.setIfInBounds_toArray,List.set_cons_zero,List.set_cons_succ,ya4,yba]
                 rfl
                refine last_ (i:=17) (N:=none) #[true,true,true,true,true,true,true,true,true,true,true,true,true,true,true,true,true,true] rfl rfl (yhd HT_.out (by kernel_rfl)) (by decide) (fun K hK=>?_)
                refine skip_ (w1:=?_) (by rfl) rfl ?_ ?_
                rotate_left
                ·go_simp
                 rfl
                refine hK.out _ _ ?_
                clear hK K
                refine done_ (yjd HT_.out (by kernel_rfl)) ?_
                try go_wp2
                go_roundg k3
                case measure=>have:=HJ2.out;have:=HK2.out;have:=HK3.out;omega
                case rel=>exact⟨(y643),(wrap64 (x7_3+1)),(IntKind.u64.wrap (Int.tdiv x9_3 2)),(wrap64 (x10_3+1)),zF,zF,zF,H',⟨by have:=HJ2.out;have:=HK2.out;have:=HK3.out;omega⟩,⟨by first|((with_reducible repeat (first|apply Kd.R_alloc|apply Kd.R_drewN|apply Kd.R_drew));exact HQ32.out)|(have h9:=HQ32.out;have m9:∀ a b:Int,(a+b%256)%256=(a+b)%256:=(by intros;omega);rw[m9] at h9;exact Kd.R_move h9 (fun _ _=>rfl))⟩,⟨by repeat (first|(with_reducible first|exact HB.out|apply yak|apply yab|apply ydf|refine ydu ?_ GB29.out)|exact HB.out)⟩⟩
               ·rw[if_neg c27] at H
                exact absurd H (by simp)
              ·rw[if_neg c26] at H
               exact absurd H (by simp)
            ·rw[if_neg c13] at H
             have c13b0:=decide_eq_false c13
             clear c13
             have H':=yaa.mk H
             clear H
             go_wp2
             go_roundg k3
             case measure=>have:=HJ2.out;have:=HK2.out;have:=HK3.out;omega
             case rel=>exact⟨(x6_3),(x7_3),(wrap64 (x8_2+1)),zF,zF,H',⟨by have:=HJ2.out;have:=HK2.out;have:=HK3.out;omega⟩,⟨zR HO_6.out⟩,⟨zB⟩⟩
         ·rw[if_neg c12] at H
          exact absurd H (by simp)
        ·rw[if_neg c11] at H
         have c11b0:=decide_eq_false c11
         clear c11
         simp only[Option.some.injEq,Prod.mk.injEq] at H
         obtain⟨rfl,rfl⟩:=H
         go_wp2
         go_ret2
         exact⟨_,zG,zR HO_6.out,zB⟩
def ydm.f (a0:Int):Option (Int):=if a0≥0 then (some (IntKind.u64.wrap ((IntKind.u64.wrap (a0))*2))) else (some (IntKind.u64.wrap ((IntKind.u64.wrap ((IntKind.u64.wrap (wrap64 (-(wrap64 (a0+1)))))*2))+1)))
theorem ydm.calls (a0:Int) (r:Int) (w:World) (h:ydm.f a0=some r) :
  Calls Tryz.prog 95 #[.int .i64 a0] w fun e w'=>e=.returned (.int .u64 r)∧yav w w':=by
 have H:(if a0≥0 then (some (IntKind.u64.wrap ((IntKind.u64.wrap (a0))*2))) else (some (IntKind.u64.wrap ((IntKind.u64.wrap ((IntKind.u64.wrap (wrap64 (-(wrap64 (a0+1)))))*2))+1))))=some r:=h
 clear h
 by_cases c2:a0≥0
 ·rw[if_pos c2] at H
  have c2b0:decide (0≤a0)=true:=decide_eq_true c2
  clear c2
  obtain rfl:=Option.some.inj H
  go_enter Tryz.func95,Tryz.ntmps95
  go_wp2
  go_ret
  exact⟨zF,zD⟩
 ·rw[if_neg c2] at H
  have c2b0:decide (0≤a0)=false:=decide_eq_false c2
  clear c2
  obtain rfl:=Option.some.inj H
  go_enter Tryz.func95,Tryz.ntmps95
  go_wp2
  go_ret
  exact⟨zF,zD⟩
end Go.Proofs.YteeikgjjgfdjgaaGreat.PK
end
