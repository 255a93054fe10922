/-
  Parts of the proof: E12.
-/
import Derived.Test.YteeikgjjgfdjgaaGreatU9
import Derived.Test.YteeikgjjgfdjgaaGreatU7
set_option maxHeartbeats 8000000
set_option maxRecDepth 100000
section
namespace Go.Proofs.YteeikgjjgfdjgaaGreat.PK
open Go.RowKit YteeikgjjgfdjgaaGreatW.PrintWords YteeikgjjgfdjgaaGreatW.PrintLast YteeikgjjgfdjgaaGreatW.PrintMore
attribute [local go_sem] yco ycp yc5 yc4 yck ycl ycs yct
set_option linter.unusedVariables false
set_option linter.unusedSimpArgs false
mutual
def ya1.l0:Nat→List Int→List (S150)→Int→Option ((List (S150))×Int)
 | 0,_,_,_=>none
 | k+1,x0,x4,x5=>if x5<(x0.length:Int) then (ya1.l1 k x0 x4 x5 1) else (some (x4,0))
def ya1.l1:Nat→List Int→List (S150)→Int→Int→Option ((List (S150))×Int)
 | 0,_,_,_,_=>none
 | k+1,x0,x4,x5,x6=>if (wrap64 (x5+x6))<(x0.length:Int) then (if 0≤(wrap64 (x5+x6)) then (if 0≤x5 then (if x5<(x0.length:Int) then (if (rd x0 (wrap64 (x5+x6)))=(rd x0 x5) then (ya1.l1 k x0 x4 x5 (wrap64 (x6+1))) else (if x4.length<8796093022208 then (ya1.l0 k x0 (x4++[(⟨rd x0 x5,x6⟩:S150)]) (wrap64 ((wrap64 ((wrap64 (x5+x6))-1))+1))) else (none))) else (none)) else (none)) else (none)) else (if 0≤x5 then (if x5<(x0.length:Int) then (if x4.length<8796093022208 then (ya1.l0 k x0 (x4++[(⟨rd x0 x5,x6⟩:S150)]) (wrap64 ((wrap64 ((wrap64 (x5+x6))-1))+1))) else (none)) else (none)) else (none))
end
def ya1.f (k:Nat) (l0:List Int):Option ((List (S150))×Int):=if (l0.length:Int) > 4096 then (some (([]:List (S150)),4)) else (ya1.l0 k l0 (([]:List (S150))) 0)
theorem ya1.calls (k:Nat) (A0:Option Addr) (c0:Nat) (l0:List Int) (r1:List (S150)) (r2:Int) (w:World) (hr0:Kd.C (Kd.int .i64) w A0 l0.length l0) (hc0:l0.length≤c0) (h:ya1.f k l0=some (r1,r2)) :
  Calls Tryz.prog 130 #[.slice A0 l0.length c0] w fun e w'=>∃ v0_:Value,e=.returned (.tuple #[v0_,.int .i64 r2])∧Kd.R k150 150 w' w.heap.size (fun _=>True) v0_ r1∧Below w.heap.size w w':=by
 have hu150:=Tryz.underlying150
 have HR0:=yaa.mk hr0
 have HC0:=yaa.mk hc0
 clear hr0 hc0
 have HB:=yaa.mk (Below.refl w.heap.size w)
 have H:(if (l0.length:Int) > 4096 then (some (([]:List (S150)),4)) else (ya1.l0 k l0 (([]:List (S150))) 0))=some (r1,r2):=h
 clear h
 by_cases c2:(l0.length:Int) > 4096
 ·rw[if_pos c2] at H
  have c2b0:decide (4096<(l0.length:Int))=true:=decide_eq_true c2
  have c2b1:decide (4096<l0.length)=true:=decide_eq_true (by omega)
  clear c2
  simp only[Option.some.injEq,Prod.mk.injEq] at H
  obtain⟨rfl,rfl⟩:=H
  go_enter Tryz.func130,Tryz.ntmps130
  go_wp2
  repeat (go_quiet (fail);try go_wp2)
  go_ret2
  exact⟨_,zG,zN,zB⟩
 ·rw[if_neg c2] at H
  have c2b0:decide (4096<(l0.length:Int))=false:=decide_eq_false c2
  have c2b1:decide (4096<l0.length)=false:=decide_eq_false (by omega)
  clear c2
  obtain⟨y644,hy644⟩:∃ y_:List (S150),y_=(([]:List (S150))):=⟨_,rfl⟩
  replace H:(ya1.l0 k l0 y644 0)=some (r1,r2):=by first|(rw[hy644];with_reducible exact H)|(have H2_:=(Option.bind_some _ _).symm.trans H;rw[hy644];with_reducible exact H2_)|(have H2_:=(Option.bind_some _ _).symm.trans H;with_reducible exact H2_)|with_reducible exact H|(rw[hy644];exact H)|exact H
  have Ny644:=yaa.mk hy644
  clear hy644
  have H':=yaa.mk H
  clear H
  go_enter Tryz.func130,Tryz.ntmps130
  go_wp2_with (first|((with_reducible refine yb1 (N:=10) rfl ?_);refine Kd.R_lit k150 _ 150 ?hg (N:=10) ?hd (xs:=([]:List (S150))) (inner:=[]) (ok:=fun _=>True) (okp:=fun _=>True) ?hr ?hp (fun _ hk=>hk) trivial (Below.refl _ _) (Nat.le_refl _) (by simp) ?_;(case hd=>rfl);(case hg=>rfl);(case hr=>first|(go_simp;done)|(go_simp;rfl));(case hp=>exact(Reps.none _ _));intro v645 w3 ho4 hb hg_ hnew_;clear hg_ hnew_;(first|rw[← Ny644.out] at ho4|(simp only[Int.reduceToNat] at ho4;rw[← Ny644.out] at ho4));have n0_:=yaa.mk (Kd.R_lower ho4 (yac zB));have n1_:=yaa.mk (yai zB hb);clear HB;have HO646:=n0_;have HB:=n1_;clear n0_ n1_;clear hb ho4))
  repeat (go_quiet (first|((with_reducible refine yb1 (N:=10) rfl ?_);refine Kd.R_lit k150 _ 150 ?hg (N:=10) ?hd (xs:=([]:List (S150))) (inner:=[]) (ok:=fun _=>True) (okp:=fun _=>True) ?hr ?hp (fun _ hk=>hk) trivial (Below.refl _ _) (Nat.le_refl _) (by simp) ?_;(case hd=>rfl);(case hg=>rfl);(case hr=>first|(go_simp;done)|(go_simp;rfl));(case hp=>exact(Reps.none _ _));intro v645 w3 ho4 hb hg_ hnew_;clear hg_ hnew_;(first|rw[← Ny644.out] at ho4|(simp only[Int.reduceToNat] at ho4;rw[← Ny644.out] at ho4));have n0_:=yaa.mk (Kd.R_lower ho4 (yac zB));have n1_:=yaa.mk (yai zB hb);clear HB;have HO646:=n0_;have HB:=n1_;clear n0_ n1_;clear hb ho4));try go_wp2_with (first|((with_reducible refine yb1 (N:=10) rfl ?_);refine Kd.R_lit k150 _ 150 ?hg (N:=10) ?hd (xs:=([]:List (S150))) (inner:=[]) (ok:=fun _=>True) (okp:=fun _=>True) ?hr ?hp (fun _ hk=>hk) trivial (Below.refl _ _) (Nat.le_refl _) (by simp) ?_;(case hd=>rfl);(case hg=>rfl);(case hr=>first|(go_simp;done)|(go_simp;rfl));(case hp=>exact(Reps.none _ _));intro v645 w3 ho4 hb hg_ hnew_;clear hg_ hnew_;(first|rw[← Ny644.out] at ho4|(simp only[Int.reduceToNat] at ho4;rw[← Ny644.out] at ho4));have n0_:=yaa.mk (Kd.R_lower ho4 (yac zB));have n1_:=yaa.mk (yai zB hb);clear HB;have HO646:=n0_;have HB:=n1_;clear n0_ n1_;clear hb ho4)))
  go_loopg [4,5] k (fun kq v4 v5 w'=>∃ (x4_1:List (S150)) (x5_1:Int),v5=.int .i64 x5_1∧yaa (ya1.l0 kq l0 x4_1 x5_1=some (r1,r2))∧yaa (kq≤k)∧yaa (Kd.R k150 150 w' w.heap.size (fun _=>True) v4 x4_1)∧yaa (Below w.heap.size w w'))
  case atStart=>exact⟨(y644),(0),zF,H',⟨Nat.le_refl _⟩,⟨zR HO646.out⟩,⟨zB⟩⟩
  case round =>
   clear H'
   try clear c1
   try clear c2
   try clear c2b0
   try clear c2b1
   try clear p2
   obtain⟨x4_1,x5_1,rfl,HA,HK1,HO_4,HB⟩:=hrel
   cases gk with
   | zero=>exact absurd HA.out (by simp [ya1.l0])
   | succ k1 =>
    have H:=HA.out
    clear HA
    simp only[ya1.l0] at H
    by_cases c5:x5_1<(l0.length:Int)
    ·rw[if_pos c5] at H
     have c5b0:=decide_eq_true c5
     clear c5
     have H':=yaa.mk H
     clear H
     go_wp2
     repeat (go_quiet (fail);try go_wp2)
     go_loopg [6] k1 (fun kq v6 w'=>∃ (x6_2:Int),v6=.int .i64 x6_2∧yaa (ya1.l1 kq l0 x4_1 x5_1 x6_2=some (r1,r2))∧yaa (kq≤k1)∧yaa (Kd.R k150 150 w' w.heap.size (fun _=>True) u4 x4_1)∧yaa (Below w.heap.size w w'))
     case atStart=>exact⟨(1),zF,H',⟨Nat.le_refl _⟩,⟨zR HO_4.out⟩,⟨zB⟩⟩
     case round =>
      clear H'
      try clear c1
      try clear c2
      try clear c2b0
      try clear c2b1
      try clear p2
      try clear c5
      try clear c5b0
      try clear p2
      obtain⟨x6_2,rfl,HA,HK2,HO_4,HB⟩:=hrel
      cases gk with
      | zero=>exact absurd HA.out (by simp [ya1.l1])
      | succ k2 =>
       have H:=HA.out
       clear HA
       simp only[ya1.l1] at H
       by_cases c6:(wrap64 (x5_1+x6_2))<(l0.length:Int)
       ·rw[if_pos c6] at H
        have c6b0:=decide_eq_true c6
        clear c6
        obtain⟨ji7,hji7⟩:∃ j_:Int,(wrap64 (x5_1+x6_2))=j_:=⟨_,rfl⟩
        replace H:(if 0≤(ji7) then (if 0≤x5_1 then (if x5_1<(l0.length:Int) then (if (rd l0 (ji7))=(rd l0 x5_1) then (ya1.l1 k2 l0 x4_1 x5_1 (wrap64 (x6_2+1))) else (if x4_1.length<8796093022208 then (ya1.l0 k2 l0 (x4_1++[(⟨rd l0 x5_1,x6_2⟩:S150)]) (wrap64 ((wrap64 ((ji7)-1))+1))) else (none))) else (none)) else (none)) else (none))=some (r1,r2):=by first|(rw[hji7] at H;exact H)|(simp only[hji7] at H ⊢;exact H)
        (try rw[hji7] at c6b0)
        have hji7w:(IntKind.i64.wrap (x5_1+x6_2))=ji7:=(ya4 _).trans hji7
        by_cases c8:0≤(ji7)
        ·rw[if_pos c8] at H
         have c8b0:=decide_eq_true c8
         clear c8
         by_cases c9:0≤x5_1
         ·rw[if_pos c9] at H
          have c9b0:=decide_eq_true c9
          clear c9
          by_cases c10:x5_1<(l0.length:Int)
          ·rw[if_pos c10] at H
           have c10b0:=decide_eq_true c10
           clear c10
           by_cases c11:(rd l0 (ji7))=(rd l0 x5_1)
           ·rw[if_pos c11] at H
            have c11b0:((rd l0 (ji7)) == (rd l0 x5_1))=true:=beq_iff_eq.mpr c11
            have c11b1:((rd l0 (ji7)) != (rd l0 x5_1))=false:=bne_eq_false_iff_eq.mpr c11
            clear c11
            have H':=yaa.mk H
            clear H
            have p647:0≤((ji7):Int):=of_decide_eq_true zA
            have q647:(ji7)<(l0.length:Int):=of_decide_eq_true zA
            obtain⟨ad647,e647,hx647_0⟩:=Kd.at_int HR0.out (ji7) p647 q647
            cases e647
            replace hx647_0:=(HB.out.cell (World.block_lt_of_cell? w _ hx647_0)).trans hx647_0
            replace p647:=eq_true p647
            replace q647:=eq_true q647
            have p648:0≤(x5_1:Int):=of_decide_eq_true zA
            have q648:x5_1<(l0.length:Int):=of_decide_eq_true zA
            obtain⟨ad648,e648,hx648_0⟩:=Kd.at_int HR0.out x5_1 p648 q648
            obtain rfl:ad647=ad648:=(by injection e648)
            replace hx648_0:=(HB.out.cell (World.block_lt_of_cell? w _ hx648_0)).trans hx648_0
            replace p648:=eq_true p648
            replace q648:=eq_true q648
            go_wp2
            repeat (go_quiet (fail);try go_wp2)
            go_roundg k2
            case measure=>have:=HK1.out;have:=HK2.out;omega
            case rel=>exact⟨(wrap64 (x6_2+1)),zF,H',⟨by have:=HK1.out;have:=HK2.out;omega⟩,⟨zR HO_4.out⟩,⟨zB⟩⟩
           ·rw[if_neg c11] at H
            have c11b0:((rd l0 (ji7)) == (rd l0 x5_1))=false:=beq_eq_false_iff_ne.mpr c11
            have c11b1:((rd l0 (ji7)) != (rd l0 x5_1))=true:=bne_iff_ne.mpr c11
            by_cases c12:x4_1.length<8796093022208
            ·rw[if_pos c12] at H
             have LMc12:=yaa.mk c12
             clear c12
             obtain⟨y650,hy650⟩:∃ y_:List (S150),y_=(x4_1++[(⟨rd l0 x5_1,x6_2⟩:S150)]):=⟨_,rfl⟩
             replace H:(ya1.l0 k2 l0 y650 (wrap64 ((wrap64 ((ji7)-1))+1)))=some (r1,r2):=by first|(rw[hy650];with_reducible exact H)|(have H2_:=(Option.bind_some _ _).symm.trans H;rw[hy650];with_reducible exact H2_)|(have H2_:=(Option.bind_some _ _).symm.trans H;with_reducible exact H2_)|with_reducible exact H|(rw[hy650];exact H)|exact H
             have Ny650:=yaa.mk hy650
             clear hy650
             have H':=yaa.mk H
             clear H
             have p647:0≤((ji7):Int):=of_decide_eq_true zA
             have q647:(ji7)<(l0.length:Int):=of_decide_eq_true zA
             obtain⟨ad647,e647,hx647_0⟩:=Kd.at_int HR0.out (ji7) p647 q647
             cases e647
             replace hx647_0:=(HB.out.cell (World.block_lt_of_cell? w _ hx647_0)).trans hx647_0
             replace p647:=eq_true p647
             replace q647:=eq_true q647
             have p648:0≤(x5_1:Int):=of_decide_eq_true zA
             have q648:x5_1<(l0.length:Int):=of_decide_eq_true zA
             obtain⟨ad648,e648,hx648_0⟩:=Kd.at_int HR0.out x5_1 p648 q648
             obtain rfl:ad647=ad648:=(by injection e648)
             replace hx648_0:=(HB.out.cell (World.block_lt_of_cell? w _ hx648_0)).trans hx648_0
             replace p648:=eq_true p648
             replace q648:=eq_true q648
             have p649:0≤(x5_1:Int):=of_decide_eq_true zA
             have q649:x5_1<(l0.length:Int):=of_decide_eq_true zA
             obtain⟨ad649,e649,hx649_0⟩:=Kd.at_int HR0.out x5_1 p649 q649
             obtain rfl:ad647=ad649:=(by injection e649)
             replace hx649_0:=(HB.out.cell (World.block_lt_of_cell? w _ hx649_0)).trans hx649_0
             replace p649:=eq_true p649
             replace q649:=eq_true q649
             go_wp2_with (first|((with_reducible refine ybe (b:=.append) (xs:=#[.tmp 38,.tmp 45]) rfl ?_);at_builtin;refine Kd.R_append k150 (w0:=w) w.heap.size rfl (.tmp 38) (.tmp 45) 146 150 (.agg #[(.int .i64 0),(.int .i64 0)]) 16 rfl Tryz.underlying146 yg5 rfl (by decide) (by omega) u4 x4_1 (⟨rd l0 x5_1,x6_2⟩:S150) [.int .i64 (rd l0 x5_1),.int .i64 x6_2] (fun _=>True) (fun _=>False) rfl rfl ?aP (fun _ hk=>hk.elim) ?aF ?aO ?aB ?aS ?aL ?_;(case aP=>exact yfp _ _ _ (⟨rd l0 x5_1,x6_2⟩:S150));(case aB=>exact zB);(case aF=>exact fun _ _=>trivial);(case aO=>exact(zR HO_4.out));(case aS=>exact(yac zB));(case aL=>have:=LMc12.out;omega);intro v651 w13 ho hb hg hat;rw[← Ny650.out] at ho;have n0_:=yaa.mk (hb);have n1_:=yaa.mk (ho);clear HB;clear HO_4;have HB:=n0_;have HO652:=n1_;clear n0_ n1_;clear ho hb hg hat))
             repeat (go_quiet (first|((with_reducible refine ybe (b:=.append) (xs:=#[.tmp 38,.tmp 45]) rfl ?_);at_builtin;refine Kd.R_append k150 (w0:=w) w.heap.size rfl (.tmp 38) (.tmp 45) 146 150 (.agg #[(.int .i64 0),(.int .i64 0)]) 16 rfl Tryz.underlying146 yg5 rfl (by decide) (by omega) u4 x4_1 (⟨rd l0 x5_1,x6_2⟩:S150) [.int .i64 (rd l0 x5_1),.int .i64 x6_2] (fun _=>True) (fun _=>False) rfl rfl ?aP (fun _ hk=>hk.elim) ?aF ?aO ?aB ?aS ?aL ?_;(case aP=>exact yfp _ _ _ (⟨rd l0 x5_1,x6_2⟩:S150));(case aB=>exact zB);(case aF=>exact fun _ _=>trivial);(case aO=>exact(zR HO_4.out));(case aS=>exact(yac zB));(case aL=>have:=LMc12.out;omega);intro v651 w13 ho hb hg hat;rw[← Ny650.out] at ho;have n0_:=yaa.mk (hb);have n1_:=yaa.mk (ho);clear HB;clear HO_4;have HB:=n0_;have HO652:=n1_;clear n0_ n1_;clear ho hb hg hat));try go_wp2_with (first|((with_reducible refine ybe (b:=.append) (xs:=#[.tmp 38,.tmp 45]) rfl ?_);at_builtin;refine Kd.R_append k150 (w0:=w) w.heap.size rfl (.tmp 38) (.tmp 45) 146 150 (.agg #[(.int .i64 0),(.int .i64 0)]) 16 rfl Tryz.underlying146 yg5 rfl (by decide) (by omega) u4 x4_1 (⟨rd l0 x5_1,x6_2⟩:S150) [.int .i64 (rd l0 x5_1),.int .i64 x6_2] (fun _=>True) (fun _=>False) rfl rfl ?aP (fun _ hk=>hk.elim) ?aF ?aO ?aB ?aS ?aL ?_;(case aP=>exact yfp _ _ _ (⟨rd l0 x5_1,x6_2⟩:S150));(case aB=>exact zB);(case aF=>exact fun _ _=>trivial);(case aO=>exact(zR HO_4.out));(case aS=>exact(yac zB));(case aL=>have:=LMc12.out;omega);intro v651 w13 ho hb hg hat;rw[← Ny650.out] at ho;have n0_:=yaa.mk (hb);have n1_:=yaa.mk (ho);clear HB;clear HO_4;have HB:=n0_;have HO652:=n1_;clear n0_ n1_;clear ho hb hg hat)))
             go_roundg k2
             case measure=>have:=HK1.out;have:=HK2.out;omega
             case rel=>exact⟨(y650),(wrap64 ((wrap64 ((ji7)-1))+1)),(by first|rfl|(simp;done)|(simp only[← hji7] <;> (first|rfl|simp))|(simp [*];done)),H',⟨by have:=HK1.out;have:=HK2.out;omega⟩,⟨zR HO652.out⟩,⟨zB⟩⟩
            ·rw[if_neg c12] at H
             exact absurd H (by simp)
          ·rw[if_neg c10] at H
           exact absurd H (by simp)
         ·rw[if_neg c9] at H
          exact absurd H (by simp)
        ·rw[if_neg c8] at H
         exact absurd H (by simp)
       ·rw[if_neg c6] at H
        have c6b0:=decide_eq_false c6
        clear c6
        by_cases c14:0≤x5_1
        ·rw[if_pos c14] at H
         have c14b0:=decide_eq_true c14
         clear c14
         by_cases c15:x5_1<(l0.length:Int)
         ·rw[if_pos c15] at H
          have c15b0:=decide_eq_true c15
          clear c15
          by_cases c16:x4_1.length<8796093022208
          ·rw[if_pos c16] at H
           have LMc16:=yaa.mk c16
           clear c16
           obtain⟨y654,hy654⟩:∃ y_:List (S150),y_=(x4_1++[(⟨rd l0 x5_1,x6_2⟩:S150)]):=⟨_,rfl⟩
           replace H:(ya1.l0 k2 l0 y654 (wrap64 ((wrap64 ((wrap64 (x5_1+x6_2))-1))+1)))=some (r1,r2):=by first|(rw[hy654];with_reducible exact H)|(have H2_:=(Option.bind_some _ _).symm.trans H;rw[hy654];with_reducible exact H2_)|(have H2_:=(Option.bind_some _ _).symm.trans H;with_reducible exact H2_)|with_reducible exact H|(rw[hy654];exact H)|exact H
           have Ny654:=yaa.mk hy654
           clear hy654
           have H':=yaa.mk H
           clear H
           have p653:0≤(x5_1:Int):=of_decide_eq_true zA
           have q653:x5_1<(l0.length:Int):=of_decide_eq_true zA
           obtain⟨ad653,e653,hx653_0⟩:=Kd.at_int HR0.out x5_1 p653 q653
           cases e653
           replace hx653_0:=(HB.out.cell (World.block_lt_of_cell? w _ hx653_0)).trans hx653_0
           replace p653:=eq_true p653
           replace q653:=eq_true q653
           go_wp2_with (first|((with_reducible refine ybe (b:=.append) (xs:=#[.tmp 38,.tmp 45]) rfl ?_);at_builtin;refine Kd.R_append k150 (w0:=w) w.heap.size rfl (.tmp 38) (.tmp 45) 146 150 (.agg #[(.int .i64 0),(.int .i64 0)]) 16 rfl Tryz.underlying146 yg5 rfl (by decide) (by omega) u4 x4_1 (⟨rd l0 x5_1,x6_2⟩:S150) [.int .i64 (rd l0 x5_1),.int .i64 x6_2] (fun _=>True) (fun _=>False) rfl rfl ?aP (fun _ hk=>hk.elim) ?aF ?aO ?aB ?aS ?aL ?_;(case aP=>exact yfp _ _ _ (⟨rd l0 x5_1,x6_2⟩:S150));(case aB=>exact zB);(case aF=>exact fun _ _=>trivial);(case aO=>exact(zR HO_4.out));(case aS=>exact(yac zB));(case aL=>have:=LMc16.out;omega);intro v655 w17 ho hb hg hat;rw[← Ny654.out] at ho;have n0_:=yaa.mk (hb);have n1_:=yaa.mk (ho);clear HB;clear HO_4;have HB:=n0_;have HO656:=n1_;clear n0_ n1_;clear ho hb hg hat))
           repeat (go_quiet (first|((with_reducible refine ybe (b:=.append) (xs:=#[.tmp 38,.tmp 45]) rfl ?_);at_builtin;refine Kd.R_append k150 (w0:=w) w.heap.size rfl (.tmp 38) (.tmp 45) 146 150 (.agg #[(.int .i64 0),(.int .i64 0)]) 16 rfl Tryz.underlying146 yg5 rfl (by decide) (by omega) u4 x4_1 (⟨rd l0 x5_1,x6_2⟩:S150) [.int .i64 (rd l0 x5_1),.int .i64 x6_2] (fun _=>True) (fun _=>False) rfl rfl ?aP (fun _ hk=>hk.elim) ?aF ?aO ?aB ?aS ?aL ?_;(case aP=>exact yfp _ _ _ (⟨rd l0 x5_1,x6_2⟩:S150));(case aB=>exact zB);(case aF=>exact fun _ _=>trivial);(case aO=>exact(zR HO_4.out));(case aS=>exact(yac zB));(case aL=>have:=LMc16.out;omega);intro v655 w17 ho hb hg hat;rw[← Ny654.out] at ho;have n0_:=yaa.mk (hb);have n1_:=yaa.mk (ho);clear HB;clear HO_4;have HB:=n0_;have HO656:=n1_;clear n0_ n1_;clear ho hb hg hat));try go_wp2_with (first|((with_reducible refine ybe (b:=.append) (xs:=#[.tmp 38,.tmp 45]) rfl ?_);at_builtin;refine Kd.R_append k150 (w0:=w) w.heap.size rfl (.tmp 38) (.tmp 45) 146 150 (.agg #[(.int .i64 0),(.int .i64 0)]) 16 rfl Tryz.underlying146 yg5 rfl (by decide) (by omega) u4 x4_1 (⟨rd l0 x5_1,x6_2⟩:S150) [.int .i64 (rd l0 x5_1),.int .i64 x6_2] (fun _=>True) (fun _=>False) rfl rfl ?aP (fun _ hk=>hk.elim) ?aF ?aO ?aB ?aS ?aL ?_;(case aP=>exact yfp _ _ _ (⟨rd l0 x5_1,x6_2⟩:S150));(case aB=>exact zB);(case aF=>exact fun _ _=>trivial);(case aO=>exact(zR HO_4.out));(case aS=>exact(yac zB));(case aL=>have:=LMc16.out;omega);intro v655 w17 ho hb hg hat;rw[← Ny654.out] at ho;have n0_:=yaa.mk (hb);have n1_:=yaa.mk (ho);clear HB;clear HO_4;have HB:=n0_;have HO656:=n1_;clear n0_ n1_;clear ho hb hg hat)))
           go_roundg k2
           case measure=>have:=HK1.out;have:=HK2.out;omega
           case rel=>exact⟨(y654),(wrap64 ((wrap64 ((wrap64 (x5_1+x6_2))-1))+1)),zF,H',⟨by have:=HK1.out;have:=HK2.out;omega⟩,⟨zR HO656.out⟩,⟨zB⟩⟩
          ·rw[if_neg c16] at H
           exact absurd H (by simp)
         ·rw[if_neg c15] at H
          exact absurd H (by simp)
        ·rw[if_neg c14] at H
         exact absurd H (by simp)
    ·rw[if_neg c5] at H
     have c5b0:=decide_eq_false c5
     clear c5
     simp only[Option.some.injEq,Prod.mk.injEq] at H
     obtain⟨rfl,rfl⟩:=H
     go_wp2
     repeat (go_quiet (fail);try go_wp2)
     go_ret2
     exact⟨_,zG,zR HO_4.out,zB⟩
def yb4.l0:Nat→List (S150)→List Int→Int→Option (List Int×Int)
 | 0,_,_,_=>none
 | k+1,x4,x6,x7=>if x7<(x4.length:Int) then (if 0≤x7 then ((ydm.f ((yax x4 x7).f0)).bind fun t665=>((yae.f k t665).bind fun t666=>((yam.f k x6 t666).bind fun t669=>((yae.f k (IntKind.u64.wrap ((yax x4 x7).f1))).bind fun t673=>((yam.f k t669 t673).bind fun t676=>(yb4.l0 k x4 t676 (wrap64 (x7+1)))))))) else (none)) else (some (x6,0))
def yb4.f (k:Nat) (l0:List Int):Option (List Int×Int):=(ya1.f k l0).bind fun bt657=>(if bt657.2=0 then ((yae.f k (IntKind.u64.wrap ((bt657.1.length:Int)))).bind fun t661=>(yb4.l0 k bt657.1 t661 0)) else (some (([]:List Int),bt657.2)))
theorem yb4.calls (k:Nat) (A0:Option Addr) (c0:Nat) (l0:List Int) (r1:List Int) (r2:Int) (w:World) (hr0:Kd.C (Kd.int .i64) w A0 l0.length l0) (hc0:l0.length≤c0) (h:yb4.f k l0=some (r1,r2)) :
  Calls Tryz.prog 96 #[.slice A0 l0.length c0] w fun e w'=>∃ v0_:Value,e=.returned (.tuple #[v0_,.int .i64 r2])∧Kd.R (Kd.int .u8) 5 w' w.heap.size (fun _=>True) v0_ r1∧Below w.heap.size w w':=by
 have HR0:=yaa.mk hr0
 have HC0:=yaa.mk hc0
 clear hr0 hc0
 have HB:=yaa.mk (Below.refl w.heap.size w)
 have H:((ya1.f k l0).bind fun bt657=>(if bt657.2=0 then ((yae.f k (IntKind.u64.wrap ((bt657.1.length:Int)))).bind fun t661=>(yb4.l0 k bt657.1 t661 0)) else (some (([]:List Int),bt657.2))))=some (r1,r2):=h
 clear h
 replace H:=Option.bind_eq_some_iff.mp H
 obtain⟨⟨t657,t658⟩,A20,H⟩:=H
 try dsimp only at H
 have A2:=yaa.mk A20
 clear A20
 by_cases c3:t658=0
 ·rw[if_pos c3] at H
  have c3b0:(t658 == 0)=true:=beq_iff_eq.mpr c3
  have c3b1:(t658 != 0)=false:=bne_eq_false_iff_eq.mpr c3
  clear c3
  replace H:=Option.bind_eq_some_iff.mp H
  obtain⟨t661,A40,H⟩:=H
  try dsimp only at H
  have A4:=yaa.mk A40
  clear A40
  have H':=yaa.mk H
  clear H
  go_enter Tryz.func96,Tryz.ntmps96
  go_wp2_with (first|((with_reducible refine yah (f:=130) rfl ?_);refine ya6 (some 10) rfl rfl Tryz.func130 (by kernel_rfl) rfl #[.slice A0 l0.length c0] rfl zE ?_;(with_reducible refine(ya1.calls k _ _ l0 t657 t658 _ ?side1 ?side2 A2.out).mono ?_);(case side1=>exact zC HR0.out);(case side2=>exact HC0.out);rintro e w5 ⟨v659,rfl,ho0,hb⟩;refine⟨_,rfl,?_⟩;have n0_:=yaa.mk (Kd.R_lower ho0 (yac zB));have n1_:=yaa.mk (yai zB hb);clear HB;have HO660:=n0_;have HB:=n1_;clear n0_ n1_;(try clear hb);(try clear hb2);(try clear hk);(try clear hi);(try clear ho0);obtain⟨Ao6,co6,eo6⟩:=Kd.R_slice HO660.out;subst eo6)|((with_reducible refine yah (f:=58) rfl ?_);refine ya6 (some 19) rfl rfl Tryz.func58 (by kernel_rfl) rfl #[.int .u64 (IntKind.u64.wrap ((t657.length:Int)))] rfl zE ?_;(with_reducible refine(yae.calls k (IntKind.u64.wrap ((t657.length:Int))) t661 _ A4.out).mono ?_);rintro e w7 ⟨v662,rfl,ho0,hb⟩;refine⟨_,rfl,?_⟩;have n0_:=yaa.mk (Kd.R_below (zR HO660.out) hb);have n1_:=yaa.mk (Kd.R_lower ho0 (yac zB));have n2_:=yaa.mk (yai zB hb);clear HO660;clear HB;have HO660:=n0_;have HO663:=n1_;have HB:=n2_;clear n0_ n1_ n2_;(try clear hb);(try clear hb2);(try clear hk);(try clear hi);(try clear ho0)))
  go_loopg [6,7] k (fun kq v6 v7 w'=>∃ (x6_1:List Int) (x7_1:Int),v7=.int .i64 x7_1∧yaa (yb4.l0 kq t657 x6_1 x7_1=some (r1,r2))∧yaa (kq≤k)∧yaa (Kd.R k150 150 w' w.heap.size (fun _=>True) (.slice Ao6 t657.length co6) t657)∧yaa (Kd.R (Kd.int .u8) 5 w' w.heap.size (fun _=>True) v6 x6_1)∧yaa (Below w.heap.size w w'))
  case atStart=>exact⟨(t661),(0),zF,H',⟨Nat.le_refl _⟩,⟨zR HO660.out⟩,⟨zR HO663.out⟩,⟨zB⟩⟩
  case round =>
   clear H'
   try clear c1
   try clear p2
   try clear c3
   try clear c3b0
   try clear c3b1
   try clear c5
   obtain⟨x6_1,x7_1,rfl,HA,HK1,HO_4,HO_6,HB⟩:=hrel
   cases gk with
   | zero=>exact absurd HA.out (by simp [yb4.l0])
   | succ k1 =>
    have H:=HA.out
    clear HA
    simp only[yb4.l0] at H
    by_cases c8:x7_1<(t657.length:Int)
    ·rw[if_pos c8] at H
     have c8b0:=decide_eq_true c8
     clear c8
     by_cases c9:0≤x7_1
     ·rw[if_pos c9] at H
      have c9b0:=decide_eq_true c9
      clear c9
      replace H:=Option.bind_eq_some_iff.mp H
      obtain⟨t665,A100,H⟩:=H
      try dsimp only at H
      have A10:=yaa.mk A100
      clear A100
      replace H:=Option.bind_eq_some_iff.mp H
      obtain⟨t666,A110,H⟩:=H
      try dsimp only at H
      have A11:=yaa.mk A110
      clear A110
      replace H:=Option.bind_eq_some_iff.mp H
      obtain⟨t669,A120,H⟩:=H
      try dsimp only at H
      have A12:=yaa.mk A120
      clear A120
      replace H:=Option.bind_eq_some_iff.mp H
      obtain⟨t673,A130,H⟩:=H
      try dsimp only at H
      have A13:=yaa.mk A130
      clear A130
      replace H:=Option.bind_eq_some_iff.mp H
      obtain⟨t676,A140,H⟩:=H
      try dsimp only at H
      have A14:=yaa.mk A140
      clear A140
      have H':=yaa.mk H
      clear H
      have p664:0≤(x7_1:Int):=of_decide_eq_true zA
      have q664:x7_1<(t657.length:Int):=of_decide_eq_true zA
      obtain⟨ad664,e664,hx664_0,hx664_1⟩:=yic (Kd.R_reads' HO_4.out).2.2 x7_1 p664 q664
      cases e664
      replace p664:=eq_true p664
      replace q664:=eq_true q664
      go_wp2_with (first|((with_reducible refine yah (f:=95) rfl ?_);refine ya6 (some 32) rfl rfl Tryz.func95 (by kernel_rfl) rfl #[.int .i64 ((yax t657 x7_1).f0)] rfl zE ?_;(with_reducible refine(ydm.calls ((yax t657 x7_1).f0) t665 _ A10.out).mono ?_);rintro e w' ⟨rfl,⟨nd,rfl⟩⟩;refine⟨_,rfl,?_⟩)|((with_reducible refine yah (f:=58) rfl ?_);refine ya6 (some 33) rfl rfl Tryz.func58 (by kernel_rfl) rfl #[.int .u64 t665] rfl zE ?_;(with_reducible refine(yae.calls k1 t665 t666 _ A11.out).mono ?_);rintro e w15 ⟨v667,rfl,ho0,hb⟩;refine⟨_,rfl,?_⟩;have n0_:=yaa.mk (Kd.R_below (zR HO_4.out) hb);have n1_:=yaa.mk (Kd.R_elder' (zR HO_6.out) (Kd.R_base ho0) hb);have n2_:=yaa.mk (Kd.R_lower (Kd.R_new' ho0 (Kd.R_lt (zR HO_6.out))) (yac zB));have n3_:=yaa.mk (yai zB hb);clear HO_4;clear HO_6;clear HB;have HO_4:=n0_;have HO_6:=n1_;have HO668:=n2_;have HB:=n3_;clear n0_ n1_ n2_ n3_;(try clear hb);(try clear hb2);(try clear hk);(try clear hi);(try clear ho0);obtain⟨Ao16,co16,eo16⟩:=Kd.R_slice HO_6.out;subst eo16;obtain⟨Ao17,co17,eo17⟩:=Kd.R_slice HO668.out;subst eo17)|((with_reducible refine yah (f:=47) rfl ?_);refine ya6 (some 34) rfl rfl Tryz.func47 (by kernel_rfl) rfl #[.slice Ao16 x6_1.length co16,.slice Ao17 t666.length co17] rfl zE ?_;(with_reducible refine(yam.calls k1 _ _ x6_1 _ _ t666 t669 _ ?side1 ?side2 ?side3 ?side4 A12.out).mono ?_);(case side1=>exact zC (Kd.R_reads' HO_6.out).2.2);(case side2=>exact(Kd.R_reads' HO_6.out).2.1);(case side3=>exact zC (Kd.R_reads' HO668.out).2.2);(case side4=>exact(Kd.R_reads' HO668.out).2.1);rintro e w18 ⟨v670,rfl,ho0,hb⟩;refine⟨_,rfl,?_⟩;have n0_:=yaa.mk (Kd.R_below (zR HO_4.out) hb);have n1_:=yaa.mk (Kd.R_elder' (zR HO_6.out) (Kd.R_base ho0) hb);have n2_:=yaa.mk (Kd.R_elder' (zR HO668.out) (Kd.R_base ho0) hb);have n3_:=yaa.mk (Kd.R_lower (Kd.R_new' (Kd.R_new' ho0 (Kd.R_lt (zR HO_6.out))) (Kd.R_lt (zR HO668.out))) (yac zB));have n4_:=yaa.mk (yai zB hb);clear HO_4;clear HO_6;clear HO668;clear HB;have HO_4:=n0_;have HO_6:=n1_;have HO668:=n2_;have HO671:=n3_;have HB:=n4_;clear n0_ n1_ n2_ n3_ n4_;(try clear hb);(try clear hb2);(try clear hk);(try clear hi);(try clear ho0);have p672:0≤(x7_1:Int):=of_decide_eq_true zA;have q672:x7_1<(t657.length:Int):=of_decide_eq_true zA;obtain⟨ad672,e672,hx672_0,hx672_1⟩:=yic (Kd.R_reads' HO_4.out).2.2 x7_1 p672 q672;obtain rfl:ad664=ad672:=(by injection e672);replace p672:=eq_true p672;replace q672:=eq_true q672)|((with_reducible refine yah (f:=58) rfl ?_);refine ya6 (some 42) rfl rfl Tryz.func58 (by kernel_rfl) rfl #[.int .u64 (IntKind.u64.wrap ((yax t657 x7_1).f1))] rfl zE ?_;(with_reducible refine(yae.calls k1 (IntKind.u64.wrap ((yax t657 x7_1).f1)) t673 _ A13.out).mono ?_);rintro e w19 ⟨v674,rfl,ho0,hb⟩;refine⟨_,rfl,?_⟩;have n0_:=yaa.mk (Kd.R_below (zR HO_4.out) hb);have n1_:=yaa.mk (Kd.R_elder' (zR HO_6.out) (Kd.R_base ho0) hb);have n2_:=yaa.mk (Kd.R_elder' (zR HO668.out) (Kd.R_base ho0) hb);have n3_:=yaa.mk (Kd.R_elder' (zR HO671.out) (Kd.R_base ho0) hb);have n4_:=yaa.mk (Kd.R_lower (Kd.R_new' (Kd.R_new' (Kd.R_new' ho0 (Kd.R_lt (zR HO_6.out))) (Kd.R_lt (zR HO668.out))) (Kd.R_lt (zR HO671.out))) (yac zB));have n5_:=yaa.mk (yai zB hb);clear HO_4;clear HO_6;clear HO668;clear HO671;clear HB;have HO_4:=n0_;have HO_6:=n1_;have HO668:=n2_;have HO671:=n3_;have HO675:=n4_;have HB:=n5_;clear n0_ n1_ n2_ n3_ n4_ n5_;(try clear hb);(try clear hb2);(try clear hk);(try clear hi);(try clear ho0);obtain⟨Ao20,co20,eo20⟩:=Kd.R_slice HO671.out;subst eo20;obtain⟨Ao21,co21,eo21⟩:=Kd.R_slice HO675.out;subst eo21)|((with_reducible refine yah (f:=47) rfl ?_);refine ya6 (some 43) rfl rfl Tryz.func47 (by kernel_rfl) rfl #[.slice Ao20 t669.length co20,.slice Ao21 t673.length co21] rfl zE ?_;(with_reducible refine(yam.calls k1 _ _ t669 _ _ t673 t676 _ ?side1 ?side2 ?side3 ?side4 A14.out).mono ?_);(case side1=>exact zC (Kd.R_reads' HO671.out).2.2);(case side2=>exact(Kd.R_reads' HO671.out).2.1);(case side3=>exact zC (Kd.R_reads' HO675.out).2.2);(case side4=>exact(Kd.R_reads' HO675.out).2.1);rintro e w22 ⟨v677,rfl,ho0,hb⟩;refine⟨_,rfl,?_⟩;have n0_:=yaa.mk (Kd.R_below (zR HO_4.out) hb);have n1_:=yaa.mk (Kd.R_elder' (zR HO_6.out) (Kd.R_base ho0) hb);have n2_:=yaa.mk (Kd.R_elder' (zR HO668.out) (Kd.R_base ho0) hb);have n3_:=yaa.mk (Kd.R_elder' (zR HO671.out) (Kd.R_base ho0) hb);have n4_:=yaa.mk (Kd.R_elder' (zR HO675.out) (Kd.R_base ho0) hb);have n5_:=yaa.mk (Kd.R_lower (Kd.R_new' (Kd.R_new' (Kd.R_new' (Kd.R_new' ho0 (Kd.R_lt (zR HO_6.out))) (Kd.R_lt (zR HO668.out))) (Kd.R_lt (zR HO671.out))) (Kd.R_lt (zR HO675.out))) (yac zB));have n6_:=yaa.mk (yai zB hb);clear HO_4;clear HO_6;clear HO668;clear HO671;clear HO675;clear HB;have HO_4:=n0_;have HO_6:=n1_;have HO668:=n2_;have HO671:=n3_;have HO675:=n4_;have HO678:=n5_;have HB:=n6_;clear n0_ n1_ n2_ n3_ n4_ n5_ n6_;(try clear hb);(try clear hb2);(try clear hk);(try clear hi);(try clear ho0)))
      go_roundg k1
      case measure=>have:=HK1.out;omega
      case rel=>exact⟨(t676),(wrap64 (x7_1+1)),zF,H',⟨by have:=HK1.out;omega⟩,⟨zR HO_4.out⟩,⟨by (with_reducible repeat (first|apply Kd.R_alloc|apply Kd.R_drewN|apply Kd.R_drew));exact Kd.R_mono HO678.out (fun _ hk=>trivial)⟩,⟨zB⟩⟩
     ·rw[if_neg c9] at H
      exact absurd H (by simp)
    ·rw[if_neg c8] at H
     have c8b0:=decide_eq_false c8
     clear c8
     simp only[Option.some.injEq,Prod.mk.injEq] at H
     obtain⟨rfl,rfl⟩:=H
     go_wp2
     go_ret2
     exact⟨_,zG,zR HO_6.out,zB⟩
 ·rw[if_neg c3] at H
  have c3b0:(t658 == 0)=false:=beq_eq_false_iff_ne.mpr c3
  have c3b1:(t658 != 0)=true:=bne_iff_ne.mpr c3
  simp only[Option.some.injEq,Prod.mk.injEq] at H
  obtain⟨rfl,rfl⟩:=H
  go_enter Tryz.func96,Tryz.ntmps96
  go_wp2_with (first|((with_reducible refine yah (f:=130) rfl ?_);refine ya6 (some 10) rfl rfl Tryz.func130 (by kernel_rfl) rfl #[.slice A0 l0.length c0] rfl zE ?_;(with_reducible refine(ya1.calls k _ _ l0 t657 t658 _ ?side1 ?side2 A2.out).mono ?_);(case side1=>exact zC HR0.out);(case side2=>exact HC0.out);rintro e w23 ⟨v659,rfl,ho0,hb⟩;refine⟨_,rfl,?_⟩;have n0_:=yaa.mk (Kd.R_lower ho0 (yac zB));have n1_:=yaa.mk (yai zB hb);clear HB;have HO660:=n0_;have HB:=n1_;clear n0_ n1_;(try clear hb);(try clear hb2);(try clear hk);(try clear hi);(try clear ho0)))
  go_ret2
  exact⟨_,zG,zN,zB⟩
def ybq.l0:Nat→List Int→Int→Int→Option (Int)
 | 0,_,_,_=>none
 | k+1,x0,x3,x4=>if x4<(x0.length:Int) then (if 0≤x4 then (if (rd x0 x4)<x3 then (ybq.l0 k x0 (rd x0 x4) (wrap64 (x4+1))) else (ybq.l0 k x0 x3 (wrap64 (x4+1)))) else (none)) else (some x3)
def ybq.f (k:Nat) (l0:List Int):Option (Int):=if 0<(l0.length:Int) then (ybq.l0 k l0 (rd l0 0) 0) else (none)
theorem ybq.calls (k:Nat) (A0:Option Addr) (c0:Nat) (l0:List Int) (r:Int) (w:World) (hr0:Kd.C (Kd.int .i64) w A0 l0.length l0) (hc0:l0.length≤c0) (h:ybq.f k l0=some r) :
  Calls Tryz.prog 131 #[.slice A0 l0.length c0] w fun e w'=>e=.returned (.int .i64 r)∧yav w w':=by
 have HR0:=yaa.mk hr0
 have HC0:=yaa.mk hc0
 clear hr0 hc0
 have H:(if 0<(l0.length:Int) then (ybq.l0 k l0 (rd l0 0) 0) else (none))=some r:=h
 clear h
 by_cases c2:0<(l0.length:Int)
 ·rw[if_pos c2] at H
  have c2b0:=decide_eq_true c2
  have c2b1:decide (0<l0.length)=true:=decide_eq_true (by omega)
  clear c2
  have H':=yaa.mk H
  clear H
  have p679:0≤(0:Int):=(by omega)
  have q679:0<(l0.length:Int):=of_decide_eq_true zA
  obtain⟨ad679,e679,hx679_0⟩:=Kd.at_int HR0.out 0 p679 q679
  cases e679
  have qi679:(0<l0.length)=True:=eq_true (by omega)
  (try rw[show((0:Int)).toNat=0 from rfl] at hx679_0)
  (try rw[Addr.add_zero'] at hx679_0)
  replace p679:=eq_true p679
  replace q679:=eq_true q679
  go_enter Tryz.func131,Tryz.ntmps131
  go_wp2
  go_loopg [3,4] k (fun kq v3 v4 w'=>∃ (x3_1:Int) (x4_1:Int),v3=.int .i64 x3_1∧v4=.int .i64 x4_1∧yaa (ybq.l0 kq l0 x3_1 x4_1=some r)∧yaa (kq≤k)∧yav w w')
  case atStart=>exact⟨(rd l0 0),(0),zF,zF,H',⟨Nat.le_refl _⟩,zD⟩
  case round =>
   clear H'
   try clear c1
   try clear c2
   try clear c2b0
   try clear c2b1
   try clear p2
   try clear hx679_0
   try clear p679
   try clear q679
   obtain⟨x3_1,x4_1,rfl,rfl,HA,HK1,⟨m1,rfl⟩⟩:=hrel
   cases gk with
   | zero=>exact absurd HA.out (by simp [ybq.l0])
   | succ k1 =>
    have H:=HA.out
    clear HA
    simp only[ybq.l0] at H
    by_cases c3:x4_1<(l0.length:Int)
    ·rw[if_pos c3] at H
     have c3b0:=decide_eq_true c3
     clear c3
     by_cases c4:0≤x4_1
     ·rw[if_pos c4] at H
      have c4b0:=decide_eq_true c4
      clear c4
      by_cases c5:(rd l0 x4_1)<x3_1
      ·rw[if_pos c5] at H
       have c5b0:=decide_eq_true c5
       clear c5
       have H':=yaa.mk H
       clear H
       have p680:0≤(x4_1:Int):=of_decide_eq_true zA
       have q680:x4_1<(l0.length:Int):=of_decide_eq_true zA
       obtain⟨ad680,e680,hx680_0⟩:=Kd.at_int HR0.out x4_1 p680 q680
       obtain rfl:ad679=ad680:=(by injection e680)
       replace p680:=eq_true p680
       replace q680:=eq_true q680
       have p681:0≤(x4_1:Int):=of_decide_eq_true zA
       have q681:x4_1<(l0.length:Int):=of_decide_eq_true zA
       obtain⟨ad681,e681,hx681_0⟩:=Kd.at_int HR0.out x4_1 p681 q681
       obtain rfl:ad679=ad681:=(by injection e681)
       replace p681:=eq_true p681
       replace q681:=eq_true q681
       go_wp2
       go_roundg k1
       case measure=>have:=HK1.out;omega
       case rel=>exact⟨(rd l0 x4_1),(wrap64 (x4_1+1)),zF,zF,H',⟨by have:=HK1.out;omega⟩,zD⟩
      ·rw[if_neg c5] at H
       have c5b0:=decide_eq_false c5
       clear c5
       have H':=yaa.mk H
       clear H
       have p680:0≤(x4_1:Int):=of_decide_eq_true zA
       have q680:x4_1<(l0.length:Int):=of_decide_eq_true zA
       obtain⟨ad680,e680,hx680_0⟩:=Kd.at_int HR0.out x4_1 p680 q680
       obtain rfl:ad679=ad680:=(by injection e680)
       replace p680:=eq_true p680
       replace q680:=eq_true q680
       go_wp2
       go_roundg k1
       case measure=>have:=HK1.out;omega
       case rel=>exact⟨(x3_1),(wrap64 (x4_1+1)),zF,zF,H',⟨by have:=HK1.out;omega⟩,zD⟩
     ·rw[if_neg c4] at H
      exact absurd H (by simp)
    ·rw[if_neg c3] at H
     have c3b0:=decide_eq_false c3
     clear c3
     obtain rfl:=Option.some.inj H
     go_wp2
     go_ret
     exact⟨zF,zD⟩
 ·rw[if_neg c2] at H
  exact absurd H (by simp)
end Go.Proofs.YteeikgjjgfdjgaaGreat.PK
end
