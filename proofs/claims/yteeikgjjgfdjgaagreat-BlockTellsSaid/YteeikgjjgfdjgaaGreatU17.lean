/-
  Parts of the proof: E15.
-/
import Derived.Test.YteeikgjjgfdjgaaGreatU14
set_option maxHeartbeats 8000000
set_option maxRecDepth 100000
section
namespace Go.Proofs.YteeikgjjgfdjgaaGreat.PK
open Go.RowKit YteeikgjjgfdjgaaGreatW.PrintWords YteeikgjjgfdjgaaGreatW.PrintLast YteeikgjjgfdjgaaGreatW.PrintMore
attribute [local go_sem] yco ycp yc5 yc4 yck ycl ycs yct
set_option linter.unusedVariables false
set_option linter.unusedSimpArgs false
mutual
def ya7.l0:Nat→List (List Int)→List Int→List Int→Int→Option (List Int×Int)
 | 0,_,_,_,_=>none
 | k+1,x4,x5,x7,x8=>if x8<(x4.length:Int) then (if 0≤x8 then ((yae.f k (IntKind.u64.wrap (((ybb x4 x8).length:Int)))).bind fun t768=>((yam.f k x7 t768).bind fun t771=>((yam.f k t771 (ybb x4 x8)).bind fun t775=>(ya7.l0 k x4 x5 t775 (wrap64 (x8+1)))))) else (none)) else (ya7.l1 k x4 x5 x7 (([]:List Int)) 0)
def ya7.l1:Nat→List (List Int)→List Int→List Int→List Int→Int→Option (List Int×Int)
 | 0,_,_,_,_,_=>none
 | k+1,x4,x5,x7,x9,x10=>if x10<(x5.length:Int) then (if 0≤x10 then (if x9.length<17592186044416 then (ya7.l1 k x4 x5 x7 (x9++[IntKind.u64.wrap (rd x5 x10)]) (wrap64 (x10+1))) else (none)) else (none)) else ((yed.f k (x4.length:Int)).bind fun t785=>((yag.f k t785 x9).bind fun bt786=>((yae.f k (IntKind.u64.wrap ((x9.length:Int)))).bind fun t790=>((yam.f k x7 t790).bind fun t793=>((yam.f k t793 bt786.1).bind fun t796=>(some (t796,0)))))))
end
def ya7.f (k:Nat) (l0:List (List Int)):Option (List Int×Int):=(yap.f k l0).bind fun bt757=>(if bt757.2.2=0 then ((yae.f k (IntKind.u64.wrap ((bt757.1.length:Int)))).bind fun t764=>(ya7.l0 k bt757.1 bt757.2.1 t764 0)) else (some (([]:List Int),bt757.2.2)))
theorem ya7.calls (k:Nat) (A0:Option Addr) (c0:Nat) (l0:List (List Int)) (r1:List Int) (r2:Int) (w:World) (hr0:Kd.C (Kd.slice 5 (Kd.int .u8)) w A0 l0.length l0) (hc0:l0.length≤c0) (h:ya7.f k l0=some (r1,r2)) :
  Calls Tryz.prog 98 #[.slice A0 l0.length c0] w fun e w'=>∃ v0_:Value,e=.returned (.tuple #[v0_,.int .i64 r2])∧Kd.R (Kd.int .u8) 5 w' w.heap.size (fun _=>True) v0_ r1∧Below w.heap.size w w':=by
 have HR0:=yaa.mk hr0
 have HC0:=yaa.mk hc0
 clear hr0 hc0
 have HB:=yaa.mk (Below.refl w.heap.size w)
 have H:((yap.f k l0).bind fun bt757=>(if bt757.2.2=0 then ((yae.f k (IntKind.u64.wrap ((bt757.1.length:Int)))).bind fun t764=>(ya7.l0 k bt757.1 bt757.2.1 t764 0)) else (some (([]:List Int),bt757.2.2))))=some (r1,r2):=h
 clear h
 replace H:=Option.bind_eq_some_iff.mp H
 obtain⟨⟨t757,t760,t763⟩,A20,H⟩:=H
 try dsimp only at H
 have A2:=yaa.mk A20
 clear A20
 by_cases c3:t763=0
 ·rw[if_pos c3] at H
  have c3b0:(t763 == 0)=true:=beq_iff_eq.mpr c3
  have c3b1:(t763 != 0)=false:=bne_eq_false_iff_eq.mpr c3
  clear c3
  replace H:=Option.bind_eq_some_iff.mp H
  obtain⟨t764,A40,H⟩:=H
  try dsimp only at H
  have A4:=yaa.mk A40
  clear A40
  have H':=yaa.mk H
  clear H
  go_enter Tryz.func98,Tryz.ntmps98
  go_wp2_with (first|((with_reducible refine yah (f:=132) rfl ?_);refine ya6 (some 15) rfl rfl Tryz.func132 (by kernel_rfl) rfl #[.slice A0 l0.length c0] rfl zE ?_;(with_reducible refine(yap.calls k _ _ l0 t757 t760 t763 _ ?side1 ?side2 A2.out).mono ?_);(case side1=>exact zC HR0.out);(case side2=>exact HC0.out);rintro e w5 ⟨v758,v761,rfl,ho0,ho1,hb⟩;refine⟨_,rfl,?_⟩;have n0_:=yaa.mk (Kd.V_lower (Kd.V_mono (ok':=fun k_=>some k_≠(v761:Value).ownBlock) ho0 (fun k_ hk_=>hk_.2)) (yac zB));have n1_:=yaa.mk (Kd.R_lower (Kd.R_mono (ok':=fun k_=>True) ho1 (fun _ hk_=>trivial)) (yac zB));have n2_:=yaa.mk (yai zB hb);clear HB;have HO759:=n0_;have HO762:=n1_;have HB:=n2_;clear n0_ n1_ n2_;(try clear hb);(try clear hb2);(try clear hk);(try clear hi);(try clear ho0);(try clear ho1);obtain⟨Ao6,co6,eo6⟩:=Kd.V_slice HO759.out;subst eo6)|((with_reducible refine yah (f:=58) rfl ?_);refine ya6 (some 25) rfl rfl Tryz.func58 (by kernel_rfl) rfl #[.int .u64 (IntKind.u64.wrap ((t757.length:Int)))] rfl zE ?_;(with_reducible refine(yae.calls k (IntKind.u64.wrap ((t757.length:Int))) t764 _ A4.out).mono ?_);rintro e w7 ⟨v765,rfl,ho0,hb⟩;refine⟨_,rfl,?_⟩;have n0_:=yaa.mk (Kd.V_elder' (by (with_reducible repeat (first|apply Kd.V_alloc|apply Kd.V_drewN|apply Kd.V_drew));exact HO759.out) (Kd.R_base ho0) hb);have n1_:=yaa.mk (Kd.R_below (zR HO762.out) hb);have n2_:=yaa.mk (Kd.R_lower ho0 (yac zB));have n3_:=yaa.mk (yai zB hb);clear HO759;clear HO762;clear HB;have HO759:=n0_;have HO762:=n1_;have HO766:=n2_;have HB:=n3_;clear n0_ n1_ n2_ n3_;(try clear hb);(try clear hb2);(try clear hk);(try clear hi);(try clear ho0)))
  go_loopg [7,8] k (fun kq v7 v8 w'=>∃ (x7_1:List Int) (x8_1:Int),v8=.int .i64 x8_1∧yaa (ya7.l0 kq t757 t760 x7_1 x8_1=some (r1,r2))∧yaa (kq≤k)∧yaa (Kd.V (Kd.slice 5 (Kd.int .u8)) 25 w' w.heap.size (fun k_=>some k_≠(v761:Value).ownBlock∧some k_≠(v7:Value).ownBlock) (.slice Ao6 t757.length co6) t757)∧yaa (Kd.R (Kd.int .i64) 3 w' w.heap.size (fun _=>True) v761 t760)∧yaa (Kd.R (Kd.int .u8) 5 w' w.heap.size (fun _=>True) v7 x7_1)∧yaa (Below w.heap.size w w'))
  case atStart=>exact⟨(t764),(0),zF,H',⟨Nat.le_refl _⟩,⟨by (with_reducible repeat (first|apply Kd.V_alloc|apply Kd.V_drewN|apply Kd.V_drew));exact HO759.out⟩,⟨zR HO762.out⟩,⟨zR HO766.out⟩,⟨zB⟩⟩
  case round =>
   clear H'
   try clear c1
   try clear p2
   try clear c3
   try clear c3b0
   try clear c3b1
   try clear c5
   obtain⟨x7_1,x8_1,rfl,HA,HK1,HO_4,HO_5,HO_7,HB⟩:=hrel
   cases gk with
   | zero=>exact absurd HA.out (by simp [ya7.l0])
   | succ k1 =>
    have H:=HA.out
    clear HA
    simp only[ya7.l0] at H
    by_cases c8:x8_1<(t757.length:Int)
    ·rw[if_pos c8] at H
     have c8b0:=decide_eq_true c8
     clear c8
     by_cases c9:0≤x8_1
     ·rw[if_pos c9] at H
      have c9b0:=decide_eq_true c9
      clear c9
      replace H:=Option.bind_eq_some_iff.mp H
      obtain⟨t768,A100,H⟩:=H
      try dsimp only at H
      have A10:=yaa.mk A100
      clear A100
      replace H:=Option.bind_eq_some_iff.mp H
      obtain⟨t771,A110,H⟩:=H
      try dsimp only at H
      have A11:=yaa.mk A110
      clear A110
      replace H:=Option.bind_eq_some_iff.mp H
      obtain⟨t775,A120,H⟩:=H
      try dsimp only at H
      have A12:=yaa.mk A120
      clear A120
      have H':=yaa.mk H
      clear H
      have p767:0≤(x8_1:Int):=of_decide_eq_true zA
      have q767:x8_1<(t757.length:Int):=of_decide_eq_true zA
      obtain⟨ad767,A767_0,c767_0,e767,hx767_0,hl767_0,hi767_0⟩:=yd8 (Kd.V_reads' HO_4.out).2.2 x8_1 p767 q767
      cases e767
      obtain⟨ce767,hce767,hMe767,hcc767⟩:=Kd.V_get HO_4.out [] x8_1 p767 (by first|exact q767|exact of_decide_eq_true zA|(have e_:=(Kd.V_reads' HO_4.out).1;omega))
      obtain⟨ua767_0,uc767_0,rfl,ul767_0,ge767_0⟩:=Kd.FK_slice_open hMe767
      have hv767_0:=hcc767 0 _ rfl
      rw[Nat.add_zero,show((Kd.slice 5 (Kd.int .u8))).sz=1 from rfl,Nat.mul_one] at hv767_0
      replace hv767_0:=Option.some.inj (hv767_0.symm.trans hx767_0)
      injection hv767_0 with hva_ hvn_ hvc_
      rw[hva_] at ge767_0
      rw[hvc_] at ul767_0
      have HL767_0:=yaa.mk (show Kd.V (Kd.int .u8) 5 _ w.heap.size _ _ (ybb t757 x8_1) from Kd.V_mk ul767_0 ge767_0)
      clear hva_ hvn_ hvc_ ge767_0 ul767_0
      clear hcc767 hce767
      have HR767_0:=yaa.mk hi767_0
      have HC767_0:=yaa.mk hl767_0
      clear hi767_0 hl767_0
      replace p767:=eq_true p767
      replace q767:=eq_true q767
      go_wp2_with (first|((with_reducible refine yah (f:=58) rfl ?_);refine ya6 (some 39) rfl rfl Tryz.func58 (by kernel_rfl) rfl #[.int .u64 (IntKind.u64.wrap (((ybb t757 x8_1).length:Int)))] rfl zE ?_;(with_reducible refine(yae.calls k1 (IntKind.u64.wrap (((ybb t757 x8_1).length:Int))) t768 _ A10.out).mono ?_);rintro e w13 ⟨v769,rfl,ho0,hb⟩;refine⟨_,rfl,?_⟩;have n0_:=yaa.mk (Kd.V_elder' (by (with_reducible repeat (first|apply Kd.V_alloc|apply Kd.V_drewN|apply Kd.V_drew));exact HO_4.out) (Kd.R_base ho0) hb);have n1_:=yaa.mk (Kd.R_below (zR HO_5.out) hb);have n2_:=yaa.mk (Kd.R_elder' (zR HO_7.out) (Kd.R_base ho0) hb);have n3_:=yaa.mk (Kd.V_elder' (by (with_reducible repeat (first|apply Kd.V_alloc|apply Kd.V_drewN|apply Kd.V_drew));exact HL767_0.out) (Kd.R_base ho0) hb);have n4_:=yaa.mk (Kd.R_lower (Kd.R_new' ho0 (Kd.R_lt (zR HO_7.out))) (yac zB));have n5_:=yaa.mk (Kd.C_below (by repeat (first|(with_reducible exact HR767_0.out)|(with_reducible refine Kd.C_alloc ?_ _)|(with_reducible refine Kd.C_drewN ?_ _)|(with_reducible refine Kd.C_drew ?_)|exact HR767_0.out)) hb);have n6_:=yaa.mk (yai zB hb);clear HO_4;clear HO_5;clear HO_7;clear HL767_0;clear HR767_0;clear HB;have HO_4:=n0_;have HO_5:=n1_;have HO_7:=n2_;have HL767_0:=n3_;have HO770:=n4_;have HR767_0:=n5_;have HB:=n6_;clear n0_ n1_ n2_ n3_ n4_ n5_ n6_;(try clear hb);(try clear hb2);(try clear hk);(try clear hi);(try clear ho0);obtain⟨Ao14,co14,eo14⟩:=Kd.R_slice HO_7.out;subst eo14;obtain⟨Ao15,co15,eo15⟩:=Kd.R_slice HO770.out;subst eo15)|((with_reducible refine yah (f:=47) rfl ?_);refine ya6 (some 40) rfl rfl Tryz.func47 (by kernel_rfl) rfl #[.slice Ao14 x7_1.length co14,.slice Ao15 t768.length co15] rfl zE ?_;(with_reducible refine(yam.calls k1 _ _ x7_1 _ _ t768 t771 _ ?side1 ?side2 ?side3 ?side4 A11.out).mono ?_);(case side1=>exact zC (Kd.R_reads' HO_7.out).2.2);(case side2=>exact(Kd.R_reads' HO_7.out).2.1);(case side3=>exact zC (Kd.R_reads' HO770.out).2.2);(case side4=>exact(Kd.R_reads' HO770.out).2.1);rintro e w16 ⟨v772,rfl,ho0,hb⟩;refine⟨_,rfl,?_⟩;have n0_:=yaa.mk (Kd.V_elder' (by (with_reducible repeat (first|apply Kd.V_alloc|apply Kd.V_drewN|apply Kd.V_drew));exact HO_4.out) (Kd.R_base ho0) hb);have n1_:=yaa.mk (Kd.R_below (zR HO_5.out) hb);have n2_:=yaa.mk (Kd.R_elder' (zR HO_7.out) (Kd.R_base ho0) hb);have n3_:=yaa.mk (Kd.V_elder' (by (with_reducible repeat (first|apply Kd.V_alloc|apply Kd.V_drewN|apply Kd.V_drew));exact HL767_0.out) (Kd.R_base ho0) hb);have n4_:=yaa.mk (Kd.R_elder' (zR HO770.out) (Kd.R_base ho0) hb);have n5_:=yaa.mk (Kd.R_lower (Kd.R_new' (Kd.R_new' ho0 (Kd.R_lt (zR HO_7.out))) (Kd.R_lt (zR HO770.out))) (yac zB));have n6_:=yaa.mk (Kd.C_below (by repeat (first|(with_reducible exact HR767_0.out)|(with_reducible refine Kd.C_alloc ?_ _)|(with_reducible refine Kd.C_drewN ?_ _)|(with_reducible refine Kd.C_drew ?_)|exact HR767_0.out)) hb);have n7_:=yaa.mk (yai zB hb);clear HO_4;clear HO_5;clear HO_7;clear HL767_0;clear HO770;clear HR767_0;clear HB;have HO_4:=n0_;have HO_5:=n1_;have HO_7:=n2_;have HL767_0:=n3_;have HO770:=n4_;have HO773:=n5_;have HR767_0:=n6_;have HB:=n7_;clear n0_ n1_ n2_ n3_ n4_ n5_ n6_ n7_;(try clear hb);(try clear hb2);(try clear hk);(try clear hi);(try clear ho0);have p774:0≤(x8_1:Int):=of_decide_eq_true zA;have q774:x8_1<(t757.length:Int):=of_decide_eq_true zA;obtain⟨ad774,A774_0,c774_0,e774,hx774_0,hl774_0,hi774_0⟩:=yd8 (Kd.V_reads' HO_4.out).2.2 x8_1 p774 q774;obtain rfl:ad767=ad774:=(by injection e774);obtain⟨ce774,hce774,hMe774,hcc774⟩:=Kd.V_get HO_4.out [] x8_1 p774 (by first|exact q774|exact of_decide_eq_true zA|(have e_:=(Kd.V_reads' HO_4.out).1;omega));obtain⟨ua774_0,uc774_0,rfl,ul774_0,ge774_0⟩:=Kd.FK_slice_open hMe774;have hv774_0:=hcc774 0 _ rfl;rw[Nat.add_zero,show((Kd.slice 5 (Kd.int .u8))).sz=1 from rfl,Nat.mul_one] at hv774_0;replace hv774_0:=Option.some.inj (hv774_0.symm.trans hx774_0);injection hv774_0 with hva_ hvn_ hvc_;rw[hva_] at ge774_0;rw[hvc_] at ul774_0;have HL774_0:=yaa.mk (show Kd.V (Kd.int .u8) 5 _ w.heap.size _ _ (ybb t757 x8_1) from Kd.V_mk ul774_0 ge774_0);clear hva_ hvn_ hvc_ ge774_0 ul774_0;clear hcc774 hce774;have HR774_0:=yaa.mk hi774_0;have HC774_0:=yaa.mk hl774_0;clear hi774_0 hl774_0;replace p774:=eq_true p774;replace q774:=eq_true q774;obtain⟨Ao17,co17,eo17⟩:=Kd.R_slice HO773.out;subst eo17)|((with_reducible refine yah (f:=47) rfl ?_);refine ya6 (some 46) rfl rfl Tryz.func47 (by kernel_rfl) rfl #[.slice Ao17 t771.length co17,.slice A774_0 (ybb t757 x8_1).length c774_0] rfl zE ?_;(with_reducible refine(yam.calls k1 _ _ t771 _ _ (ybb t757 x8_1) t775 _ ?side1 ?side2 ?side3 ?side4 A12.out).mono ?_);(case side1=>exact zC (Kd.R_reads' HO773.out).2.2);(case side2=>exact(Kd.R_reads' HO773.out).2.1);(case side3=>repeat (first|exact(by repeat (first|(with_reducible exact HR774_0.out)|(with_reducible refine Kd.C_alloc ?_ _)|(with_reducible refine Kd.C_drewN ?_ _)|(with_reducible refine Kd.C_drew ?_)|exact HR774_0.out))|(with_reducible refine Kd.C_alloc ?_ _)|(with_reducible refine Kd.C_drewN ?_ _)|(with_reducible refine Kd.C_drew ?_)));(case side4=>exact HC774_0.out);rintro e w18 ⟨v776,rfl,ho0,hb⟩;refine⟨_,rfl,?_⟩;have n0_:=yaa.mk (Kd.V_elder' (by (with_reducible repeat (first|apply Kd.V_alloc|apply Kd.V_drewN|apply Kd.V_drew));exact HO_4.out) (Kd.R_base ho0) hb);have n1_:=yaa.mk (Kd.R_below (zR HO_5.out) hb);have n2_:=yaa.mk (Kd.R_elder' (zR HO_7.out) (Kd.R_base ho0) hb);have n3_:=yaa.mk (Kd.V_elder' (by (with_reducible repeat (first|apply Kd.V_alloc|apply Kd.V_drewN|apply Kd.V_drew));exact HL767_0.out) (Kd.R_base ho0) hb);have n4_:=yaa.mk (Kd.R_elder' (zR HO770.out) (Kd.R_base ho0) hb);have n5_:=yaa.mk (Kd.R_elder' (zR HO773.out) (Kd.R_base ho0) hb);have n6_:=yaa.mk (Kd.V_elder' (by (with_reducible repeat (first|apply Kd.V_alloc|apply Kd.V_drewN|apply Kd.V_drew));exact HL774_0.out) (Kd.R_base ho0) hb);have n7_:=yaa.mk (Kd.R_lower (Kd.R_new' (Kd.R_new' (Kd.R_new' ho0 (Kd.R_lt (zR HO_7.out))) (Kd.R_lt (zR HO770.out))) (Kd.R_lt (zR HO773.out))) (yac zB));have n8_:=yaa.mk (Kd.C_below (by repeat (first|(with_reducible exact HR767_0.out)|(with_reducible refine Kd.C_alloc ?_ _)|(with_reducible refine Kd.C_drewN ?_ _)|(with_reducible refine Kd.C_drew ?_)|exact HR767_0.out)) hb);have n9_:=yaa.mk (Kd.C_below (by repeat (first|(with_reducible exact HR774_0.out)|(with_reducible refine Kd.C_alloc ?_ _)|(with_reducible refine Kd.C_drewN ?_ _)|(with_reducible refine Kd.C_drew ?_)|exact HR774_0.out)) hb);have n10_:=yaa.mk (yai zB hb);clear HO_4;clear HO_5;clear HO_7;clear HL767_0;clear HO770;clear HO773;clear HL774_0;clear HR767_0;clear HR774_0;clear HB;have HO_4:=n0_;have HO_5:=n1_;have HO_7:=n2_;have HL767_0:=n3_;have HO770:=n4_;have HO773:=n5_;have HL774_0:=n6_;have HO777:=n7_;have HR767_0:=n8_;have HR774_0:=n9_;have HB:=n10_;clear n0_ n1_ n2_ n3_ n4_ n5_ n6_ n7_ n8_ n9_ n10_;(try clear hb);(try clear hb2);(try clear hk);(try clear hi);(try clear ho0)))
      go_roundg k1
      case measure=>have:=HK1.out;omega
      case rel=>exact⟨(t775),(wrap64 (x8_1+1)),zF,H',⟨by have:=HK1.out;omega⟩,⟨by (with_reducible repeat (first|apply Kd.V_alloc|apply Kd.V_drewN|apply Kd.V_drew));exact Kd.V_mono HO_4.out (fun _ hk=>⟨hk.1.1.1.1,hk.2⟩)⟩,⟨zR HO_5.out⟩,⟨by (with_reducible repeat (first|apply Kd.R_alloc|apply Kd.R_drewN|apply Kd.R_drew));exact Kd.R_mono HO777.out (fun _ hk=>trivial)⟩,⟨zB⟩⟩
     ·rw[if_neg c9] at H
      exact absurd H (by simp)
    ·rw[if_neg c8] at H
     have c8b0:=decide_eq_false c8
     clear c8
     obtain⟨y778,hy778⟩:∃ y_:List Int,y_=(([]:List Int)):=⟨_,rfl⟩
     replace H:(ya7.l1 k1 t757 t760 x7_1 y778 0)=some (r1,r2):=by first|(rw[hy778];with_reducible exact H)|(have H2_:=(Option.bind_some _ _).symm.trans H;rw[hy778];with_reducible exact H2_)|(have H2_:=(Option.bind_some _ _).symm.trans H;with_reducible exact H2_)|with_reducible exact H|(rw[hy778];exact H)|exact H
     have Ny778:=yaa.mk hy778
     clear hy778
     have H':=yaa.mk H
     clear H
     go_wp2_with (first|((with_reducible refine yb1 (N:=47) rfl ?_);refine Kd.R_lit (Kd.int .u64) _ 63 ?hg (N:=47) ?hd (xs:=([]:List Int)) (inner:=[]) (ok:=fun _=>True) (okp:=fun _=>True) ?hr ?hp (fun _ hk=>hk) trivial (Below.refl _ _) (Nat.le_refl _) (by simp) ?_;(case hd=>rfl);(case hg=>rfl);(case hr=>first|(go_simp;done)|(go_simp;rfl));(case hp=>exact(Reps.none _ _));intro v779 w19 ho20 hb hg_ hnew_;clear hg_ hnew_;(first|rw[← Ny778.out] at ho20|(simp only[Int.reduceToNat] at ho20;rw[← Ny778.out] at ho20));have n0_:=yaa.mk (Kd.V_elder' (by (with_reducible repeat (first|apply Kd.V_alloc|apply Kd.V_drewN|apply Kd.V_drew));exact HO_4.out) (Kd.R_base ho20) hb);have n1_:=yaa.mk (Kd.R_below (zR HO_5.out) hb);have n2_:=yaa.mk (Kd.R_below (zR HO_7.out) hb);have n3_:=yaa.mk (Kd.R_lower ho20 (yac zB));have n4_:=yaa.mk (yai zB hb);clear HO_4;clear HO_5;clear HO_7;clear HB;have HO_4:=n0_;have HO_5:=n1_;have HO_7:=n2_;have HO780:=n3_;have HB:=n4_;clear n0_ n1_ n2_ n3_ n4_;clear hb ho20))
     go_loopg [9,10] k1 (fun kq v9 v10 w'=>∃ (x9_2:List Int) (x10_2:Int),v10=.int .i64 x10_2∧yaa (ya7.l1 kq t757 t760 x7_1 x9_2 x10_2=some (r1,r2))∧yaa (kq≤k1)∧yaa (Kd.V (Kd.slice 5 (Kd.int .u8)) 25 w' w.heap.size (fun k_=>some k_≠(v761:Value).ownBlock∧some k_≠(u7:Value).ownBlock∧some k_≠(v9:Value).ownBlock) (.slice Ao6 t757.length co6) t757)∧yaa (Kd.R (Kd.int .i64) 3 w' w.heap.size (fun _=>True) v761 t760)∧yaa (Kd.R (Kd.int .u8) 5 w' w.heap.size (fun _=>True) u7 x7_1)∧yaa (Kd.R (Kd.int .u64) 63 w' w.heap.size (fun _=>True) v9 x9_2)∧yaa (Below w.heap.size w w'))
     case atStart=>exact⟨(y778),(0),zF,H',⟨Nat.le_refl _⟩,⟨by (with_reducible repeat (first|apply Kd.V_alloc|apply Kd.V_drewN|apply Kd.V_drew));exact Kd.V_mono HO_4.out (fun _ hk=>⟨hk.1.1,⟨hk.1.2,hk.2⟩⟩)⟩,⟨zR HO_5.out⟩,⟨zR HO_7.out⟩,⟨zR HO780.out⟩,⟨zB⟩⟩
     case round =>
      clear H'
      try clear c1
      try clear p2
      try clear c3
      try clear c3b0
      try clear c3b1
      try clear c4
      try clear c5
      try clear p6
      try clear c7
      try clear p7
      try clear q7
      try clear hx7
      try clear c8
      try clear c8b0
      try clear c9
      try clear c9b0
      try clear c13
      try clear hx767_0
      try clear hx774_0
      try clear p2
      try clear p767
      try clear p774
      try clear q767
      try clear q774
      obtain⟨x9_2,x10_2,rfl,HA,HK2,HO_4,HO_5,HO_7,HO_9,HB⟩:=hrel
      cases gk with
      | zero=>exact absurd HA.out (by simp [ya7.l1])
      | succ k2 =>
       have H:=HA.out
       clear HA
       simp only[ya7.l1] at H
       by_cases c21:x10_2<(t760.length:Int)
       ·rw[if_pos c21] at H
        have c21b0:=decide_eq_true c21
        clear c21
        by_cases c22:0≤x10_2
        ·rw[if_pos c22] at H
         have c22b0:=decide_eq_true c22
         clear c22
         by_cases c23:x9_2.length<17592186044416
         ·rw[if_pos c23] at H
          have LMc23:=yaa.mk c23
          clear c23
          obtain⟨y782,hy782⟩:∃ y_:List Int,y_=(x9_2++[IntKind.u64.wrap (rd t760 x10_2)]):=⟨_,rfl⟩
          replace H:(ya7.l1 k2 t757 t760 x7_1 y782 (wrap64 (x10_2+1)))=some (r1,r2):=by first|(rw[hy782];with_reducible exact H)|(have H2_:=(Option.bind_some _ _).symm.trans H;rw[hy782];with_reducible exact H2_)|(have H2_:=(Option.bind_some _ _).symm.trans H;with_reducible exact H2_)|with_reducible exact H|(rw[hy782];exact H)|exact H
          have Ny782:=yaa.mk hy782
          clear hy782
          have H':=yaa.mk H
          clear H
          obtain⟨Ao24,co24,eo24⟩:=Kd.R_slice HO_5.out
          subst eo24
          have p781:0≤(x10_2:Int):=of_decide_eq_true zA
          have q781:x10_2<(t760.length:Int):=of_decide_eq_true zA
          obtain⟨ad781,e781,hx781_0⟩:=Kd.at_int (Kd.R_reads' HO_5.out).2.2 x10_2 p781 q781
          cases e781
          replace p781:=eq_true p781
          replace q781:=eq_true q781
          go_wp2_with (first|((with_reducible refine ybe (b:=.append) (xs:=#[.tmp 54,.tmp 60]) rfl ?_);at_builtin;refine Kd.R_append (Kd.int .u64) (w0:=w) w.heap.size rfl (.tmp 54) (.tmp 60) 66 63 (.int .u64 0) 8 rfl Tryz.underlying66 yhb rfl (by decide) (by omega) u9 x9_2 (IntKind.u64.wrap (rd t760 x10_2)) [.int .u64 (IntKind.u64.wrap (rd t760 x10_2))] (fun _=>True) (fun _=>False) rfl rfl ?aP (fun _ hk=>hk.elim) ?aF ?aO ?aB ?aS ?aL ?_;(case aP=>exact rfl);(case aB=>exact zB);(case aF=>exact fun _ _=>trivial);(case aO=>exact(zR HO_9.out));(case aS=>exact(yac zB));(case aL=>have:=LMc23.out;omega);intro v783 w25 ho hb hg hat;rw[← Ny782.out] at ho;have n0_:=yaa.mk (Kd.V_afterv (ok:=(fun k_=>some k_≠(.slice (some ad781) t760.length co24:Value).ownBlock∧some k_≠(u7:Value).ownBlock)) (by (with_reducible repeat (first|apply Kd.V_alloc|apply Kd.V_drewN|apply Kd.V_drew));exact Kd.V_mono HO_4.out (fun _ hk=>⟨⟨hk.1,hk.2.1⟩,hk.2.2⟩)) hg hat);have n1_:=yaa.mk (Kd.R_over' (zR HO_5.out) (Kd.R_typed (zR HO_9.out)) (by decide) hg);have n2_:=yaa.mk (Kd.R_over' (zR HO_7.out) (Kd.R_typed (zR HO_9.out)) (by decide) hg);have n3_:=yaa.mk (hb);have n4_:=yaa.mk (ho);clear HO_4;clear HO_5;clear HO_7;clear HB;clear HO_9;have HO_4:=n0_;have HO_5:=n1_;have HO_7:=n2_;have HB:=n3_;have HO784:=n4_;clear n0_ n1_ n2_ n3_ n4_;clear ho hb hg hat))
          go_roundg k2
          case measure=>have:=HK1.out;have:=HK2.out;omega
          case rel=>exact⟨(y782),(wrap64 (x10_2+1)),zF,H',⟨by have:=HK1.out;have:=HK2.out;omega⟩,⟨by (with_reducible repeat (first|apply Kd.V_alloc|apply Kd.V_drewN|apply Kd.V_drew));exact Kd.V_mono HO_4.out (fun _ hk=>⟨hk.1.1,⟨hk.1.2,hk.2⟩⟩)⟩,⟨zR HO_5.out⟩,⟨zR HO_7.out⟩,⟨zR HO784.out⟩,⟨zB⟩⟩
         ·rw[if_neg c23] at H
          exact absurd H (by simp)
        ·rw[if_neg c22] at H
         exact absurd H (by simp)
       ·rw[if_neg c21] at H
        have c21b0:=decide_eq_false c21
        clear c21
        replace H:=Option.bind_eq_some_iff.mp H
        obtain⟨t785,A260,H⟩:=H
        try dsimp only at H
        have A26:=yaa.mk A260
        clear A260
        replace H:=Option.bind_eq_some_iff.mp H
        obtain⟨⟨t786,t787⟩,A270,H⟩:=H
        try dsimp only at H
        have A27:=yaa.mk A270
        clear A270
        replace H:=Option.bind_eq_some_iff.mp H
        obtain⟨t790,A280,H⟩:=H
        try dsimp only at H
        have A28:=yaa.mk A280
        clear A280
        replace H:=Option.bind_eq_some_iff.mp H
        obtain⟨t793,A290,H⟩:=H
        try dsimp only at H
        have A29:=yaa.mk A290
        clear A290
        replace H:=Option.bind_eq_some_iff.mp H
        obtain⟨t796,A300,H⟩:=H
        try dsimp only at H
        have A30:=yaa.mk A300
        clear A300
        simp only[Option.some.injEq,Prod.mk.injEq] at H
        obtain⟨rfl,rfl⟩:=H
        obtain⟨Ao31,co31,eo31⟩:=Kd.R_slice HO_5.out
        subst eo31
        go_wp2_with (first|((with_reducible refine yah (f:=119) rfl ?_);refine ya6 (some 65) rfl rfl Tryz.func119 (by kernel_rfl) rfl #[.int .i64 (t757.length:Int)] rfl zE ?_;(with_reducible refine(yed.calls k2 (t757.length:Int) t785 _ A26.out).mono ?_);rintro e w32 ⟨rfl,hb⟩;refine⟨_,rfl,?_⟩;have n0_:=yaa.mk (Kd.V_below (by (with_reducible repeat (first|apply Kd.V_alloc|apply Kd.V_drewN|apply Kd.V_drew));exact HO_4.out) hb);have n1_:=yaa.mk (Kd.R_below (zR HO_5.out) hb);have n2_:=yaa.mk (Kd.R_below (zR HO_7.out) hb);have n3_:=yaa.mk (Kd.R_below (zR HO_9.out) hb);have n4_:=yaa.mk (yai zB hb);clear HO_4;clear HO_5;clear HO_7;clear HO_9;clear HB;have HO_4:=n0_;have HO_5:=n1_;have HO_7:=n2_;have HO_9:=n3_;have HB:=n4_;clear n0_ n1_ n2_ n3_ n4_;(try clear hb);(try clear hb2);(try clear hk);(try clear hi);obtain⟨Ao33,co33,eo33⟩:=Kd.R_slice HO_9.out;subst eo33)|((with_reducible refine yah (f:=59) rfl ?_);refine ya6 (some 67) rfl rfl Tryz.func59 (by kernel_rfl) rfl #[.int .i64 t785,.slice Ao33 x9_2.length co33] rfl zE ?_;(with_reducible refine(yag.calls k2 t785 _ _ x9_2 t786 t787 _ ?side1 ?side2 A27.out).mono ?_);(case side1=>exact zC (Kd.R_reads' HO_9.out).2.2);(case side2=>exact(Kd.R_reads' HO_9.out).2.1);rintro e w34 ⟨v788,rfl,ho0,hb⟩;refine⟨_,rfl,?_⟩;have n0_:=yaa.mk (Kd.V_elder' (by (with_reducible repeat (first|apply Kd.V_alloc|apply Kd.V_drewN|apply Kd.V_drew));exact HO_4.out) (Kd.R_base ho0) hb);have n1_:=yaa.mk (Kd.R_below (zR HO_5.out) hb);have n2_:=yaa.mk (Kd.R_elder' (zR HO_7.out) (Kd.R_base ho0) hb);have n3_:=yaa.mk (Kd.R_below (zR HO_9.out) hb);have n4_:=yaa.mk (Kd.R_lower (Kd.R_new' ho0 (Kd.R_lt (zR HO_7.out))) (yac zB));have n5_:=yaa.mk (yai zB hb);clear HO_4;clear HO_5;clear HO_7;clear HO_9;clear HB;have HO_4:=n0_;have HO_5:=n1_;have HO_7:=n2_;have HO_9:=n3_;have HO789:=n4_;have HB:=n5_;clear n0_ n1_ n2_ n3_ n4_ n5_;(try clear hb);(try clear hb2);(try clear hk);(try clear hi);(try clear ho0))|((with_reducible refine yah (f:=58) rfl ?_);refine ya6 (some 74) rfl rfl Tryz.func58 (by kernel_rfl) rfl #[.int .u64 (IntKind.u64.wrap ((x9_2.length:Int)))] rfl zE ?_;(with_reducible refine(yae.calls k2 (IntKind.u64.wrap ((x9_2.length:Int))) t790 _ A28.out).mono ?_);rintro e w35 ⟨v791,rfl,ho0,hb⟩;refine⟨_,rfl,?_⟩;have n0_:=yaa.mk (Kd.V_elder' (by (with_reducible repeat (first|apply Kd.V_alloc|apply Kd.V_drewN|apply Kd.V_drew));exact HO_4.out) (Kd.R_base ho0) hb);have n1_:=yaa.mk (Kd.R_below (zR HO_5.out) hb);have n2_:=yaa.mk (Kd.R_elder' (zR HO_7.out) (Kd.R_base ho0) hb);have n3_:=yaa.mk (Kd.R_below (zR HO_9.out) hb);have n4_:=yaa.mk (Kd.R_elder' (zR HO789.out) (Kd.R_base ho0) hb);have n5_:=yaa.mk (Kd.R_lower (Kd.R_new' (Kd.R_new' ho0 (Kd.R_lt (zR HO_7.out))) (Kd.R_lt (zR HO789.out))) (yac zB));have n6_:=yaa.mk (yai zB hb);clear HO_4;clear HO_5;clear HO_7;clear HO_9;clear HO789;clear HB;have HO_4:=n0_;have HO_5:=n1_;have HO_7:=n2_;have HO_9:=n3_;have HO789:=n4_;have HO792:=n5_;have HB:=n6_;clear n0_ n1_ n2_ n3_ n4_ n5_ n6_;(try clear hb);(try clear hb2);(try clear hk);(try clear hi);(try clear ho0);obtain⟨Ao36,co36,eo36⟩:=Kd.R_slice HO_7.out;subst eo36;obtain⟨Ao37,co37,eo37⟩:=Kd.R_slice HO792.out;subst eo37)|((with_reducible refine yah (f:=47) rfl ?_);refine ya6 (some 75) rfl rfl Tryz.func47 (by kernel_rfl) rfl #[.slice Ao36 x7_1.length co36,.slice Ao37 t790.length co37] rfl zE ?_;(with_reducible refine(yam.calls k2 _ _ x7_1 _ _ t790 t793 _ ?side1 ?side2 ?side3 ?side4 A29.out).mono ?_);(case side1=>exact zC (Kd.R_reads' HO_7.out).2.2);(case side2=>exact(Kd.R_reads' HO_7.out).2.1);(case side3=>exact zC (Kd.R_reads' HO792.out).2.2);(case side4=>exact(Kd.R_reads' HO792.out).2.1);rintro e w38 ⟨v794,rfl,ho0,hb⟩;refine⟨_,rfl,?_⟩;have n0_:=yaa.mk (Kd.V_elder' (by (with_reducible repeat (first|apply Kd.V_alloc|apply Kd.V_drewN|apply Kd.V_drew));exact HO_4.out) (Kd.R_base ho0) hb);have n1_:=yaa.mk (Kd.R_below (zR HO_5.out) hb);have n2_:=yaa.mk (Kd.R_elder' (zR HO_7.out) (Kd.R_base ho0) hb);have n3_:=yaa.mk (Kd.R_below (zR HO_9.out) hb);have n4_:=yaa.mk (Kd.R_elder' (zR HO789.out) (Kd.R_base ho0) hb);have n5_:=yaa.mk (Kd.R_elder' (zR HO792.out) (Kd.R_base ho0) hb);have n6_:=yaa.mk (Kd.R_lower (Kd.R_new' (Kd.R_new' (Kd.R_new' ho0 (Kd.R_lt (zR HO_7.out))) (Kd.R_lt (zR HO789.out))) (Kd.R_lt (zR HO792.out))) (yac zB));have n7_:=yaa.mk (yai zB hb);clear HO_4;clear HO_5;clear HO_7;clear HO_9;clear HO789;clear HO792;clear HB;have HO_4:=n0_;have HO_5:=n1_;have HO_7:=n2_;have HO_9:=n3_;have HO789:=n4_;have HO792:=n5_;have HO795:=n6_;have HB:=n7_;clear n0_ n1_ n2_ n3_ n4_ n5_ n6_ n7_;(try clear hb);(try clear hb2);(try clear hk);(try clear hi);(try clear ho0);obtain⟨Ao39,co39,eo39⟩:=Kd.R_slice HO795.out;subst eo39;obtain⟨Ao40,co40,eo40⟩:=Kd.R_slice HO789.out;subst eo40)|((with_reducible refine yah (f:=47) rfl ?_);refine ya6 (some 77) rfl rfl Tryz.func47 (by kernel_rfl) rfl #[.slice Ao39 t793.length co39,.slice Ao40 t786.length co40] rfl zE ?_;(with_reducible refine(yam.calls k2 _ _ t793 _ _ t786 t796 _ ?side1 ?side2 ?side3 ?side4 A30.out).mono ?_);(case side1=>exact zC (Kd.R_reads' HO795.out).2.2);(case side2=>exact(Kd.R_reads' HO795.out).2.1);(case side3=>exact zC (Kd.R_reads' HO789.out).2.2);(case side4=>exact(Kd.R_reads' HO789.out).2.1);rintro e w41 ⟨v797,rfl,ho0,hb⟩;refine⟨_,rfl,?_⟩;have n0_:=yaa.mk (Kd.V_elder' (by (with_reducible repeat (first|apply Kd.V_alloc|apply Kd.V_drewN|apply Kd.V_drew));exact HO_4.out) (Kd.R_base ho0) hb);have n1_:=yaa.mk (Kd.R_below (zR HO_5.out) hb);have n2_:=yaa.mk (Kd.R_elder' (zR HO_7.out) (Kd.R_base ho0) hb);have n3_:=yaa.mk (Kd.R_below (zR HO_9.out) hb);have n4_:=yaa.mk (Kd.R_elder' (zR HO789.out) (Kd.R_base ho0) hb);have n5_:=yaa.mk (Kd.R_elder' (zR HO792.out) (Kd.R_base ho0) hb);have n6_:=yaa.mk (Kd.R_elder' (zR HO795.out) (Kd.R_base ho0) hb);have n7_:=yaa.mk (Kd.R_lower (Kd.R_new' (Kd.R_new' (Kd.R_new' (Kd.R_new' ho0 (Kd.R_lt (zR HO_7.out))) (Kd.R_lt (zR HO789.out))) (Kd.R_lt (zR HO792.out))) (Kd.R_lt (zR HO795.out))) (yac zB));have n8_:=yaa.mk (yai zB hb);clear HO_4;clear HO_5;clear HO_7;clear HO_9;clear HO789;clear HO792;clear HO795;clear HB;have HO_4:=n0_;have HO_5:=n1_;have HO_7:=n2_;have HO_9:=n3_;have HO789:=n4_;have HO792:=n5_;have HO795:=n6_;have HO798:=n7_;have HB:=n8_;clear n0_ n1_ n2_ n3_ n4_ n5_ n6_ n7_ n8_;(try clear hb);(try clear hb2);(try clear hk);(try clear hi);(try clear ho0)))
        go_ret2
        exact⟨_,zG,by (with_reducible repeat (first|apply Kd.R_alloc|apply Kd.R_drewN|apply Kd.R_drew));exact Kd.R_mono HO798.out (fun _ hk=>trivial),zB⟩
 ·rw[if_neg c3] at H
  have c3b0:(t763 == 0)=false:=beq_eq_false_iff_ne.mpr c3
  have c3b1:(t763 != 0)=true:=bne_iff_ne.mpr c3
  simp only[Option.some.injEq,Prod.mk.injEq] at H
  obtain⟨rfl,rfl⟩:=H
  go_enter Tryz.func98,Tryz.ntmps98
  go_wp2_with (first|((with_reducible refine yah (f:=132) rfl ?_);refine ya6 (some 15) rfl rfl Tryz.func132 (by kernel_rfl) rfl #[.slice A0 l0.length c0] rfl zE ?_;(with_reducible refine(yap.calls k _ _ l0 t757 t760 t763 _ ?side1 ?side2 A2.out).mono ?_);(case side1=>exact zC HR0.out);(case side2=>exact HC0.out);rintro e w42 ⟨v758,v761,rfl,ho0,ho1,hb⟩;refine⟨_,rfl,?_⟩;have n0_:=yaa.mk (Kd.V_lower (Kd.V_mono (ok':=fun k_=>some k_≠(v761:Value).ownBlock) ho0 (fun k_ hk_=>hk_.2)) (yac zB));have n1_:=yaa.mk (Kd.R_lower (Kd.R_mono (ok':=fun k_=>True) ho1 (fun _ hk_=>trivial)) (yac zB));have n2_:=yaa.mk (yai zB hb);clear HB;have HO759:=n0_;have HO762:=n1_;have HB:=n2_;clear n0_ n1_ n2_;(try clear hb);(try clear hb2);(try clear hk);(try clear hi);(try clear ho0);(try clear ho1)))
  go_ret2
  exact⟨_,zG,zN,zB⟩
def ybt.l0:Nat→List Int→List Int→Int→Option (Int)
 | 0,_,_,_=>none
 | k+1,x0,x1,x5=>if x5<(x0.length:Int) then (if x5≥(x1.length:Int) then (some x5) else (if 0≤x5 then (if x5<(x1.length:Int) then (if (rd x0 x5)=(rd x1 x5) then (ybt.l0 k x0 x1 (wrap64 (x5+1))) else (some x5)) else (none)) else (none))) else (some (x0.length:Int))
def ybt.f (k:Nat) (l0:List Int) (l1:List Int):Option (Int):=ybt.l0 k l0 l1 0
theorem ybt.calls (k:Nat) (A0:Option Addr) (c0:Nat) (l0:List Int) (A1:Option Addr) (c1:Nat) (l1:List Int) (r:Int) (w:World) (hr0:Kd.C (Kd.int .u8) w A0 l0.length l0) (hc0:l0.length≤c0) (hr1:Kd.C (Kd.int .u8) w A1 l1.length l1) (hc1:l1.length≤c1) (h:ybt.f k l0 l1=some r) :
  Calls Tryz.prog 133 #[.slice A0 l0.length c0,.slice A1 l1.length c1] w fun e w'=>e=.returned (.int .i64 r)∧yav w w':=by
 have HR0:=yaa.mk hr0
 have HC0:=yaa.mk hc0
 clear hr0 hc0
 have HR1:=yaa.mk hr1
 have HC1:=yaa.mk hc1
 clear hr1 hc1
 have H:(ybt.l0 k l0 l1 0)=some r:=h
 clear h
 have H':=yaa.mk H
 clear H
 go_enter Tryz.func133,Tryz.ntmps133
 go_wp2
 repeat (go_quiet (fail);try go_wp2)
 go_loopg [5] k (fun kq v5 w'=>∃ (x5_1:Int),v5=.int .i64 x5_1∧yaa (ybt.l0 kq l0 l1 x5_1=some r)∧yaa (kq≤k)∧yav w w')
 case atStart=>exact⟨(0),zF,H',⟨Nat.le_refl _⟩,zD⟩
 case round =>
  clear H'
  try clear c1
  try clear p2
  obtain⟨x5_1,rfl,HA,HK1,⟨m1,rfl⟩⟩:=hrel
  cases gk with
  | zero=>exact absurd HA.out (by simp [ybt.l0])
  | succ k1 =>
   have H:=HA.out
   clear HA
   simp only[ybt.l0] at H
   by_cases c3:x5_1<(l0.length:Int)
   ·rw[if_pos c3] at H
    have c3b0:=decide_eq_true c3
    clear c3
    by_cases c4:x5_1≥(l1.length:Int)
    ·rw[if_pos c4] at H
     have c4b0:decide ((l1.length:Int)≤x5_1)=true:=decide_eq_true c4
     clear c4
     obtain rfl:=Option.some.inj H
     go_wp2
     repeat (go_quiet (fail);try go_wp2)
     go_ret
     exact⟨zF,zD⟩
    ·rw[if_neg c4] at H
     have c4b0:decide ((l1.length:Int)≤x5_1)=false:=decide_eq_false c4
     clear c4
     by_cases c5:0≤x5_1
     ·rw[if_pos c5] at H
      have c5b0:=decide_eq_true c5
      clear c5
      by_cases c6:x5_1<(l1.length:Int)
      ·rw[if_pos c6] at H
       have c6b0:=decide_eq_true c6
       clear c6
       by_cases c7:(rd l0 x5_1)=(rd l1 x5_1)
       ·rw[if_pos c7] at H
        have c7b0:((rd l0 x5_1) == (rd l1 x5_1))=true:=beq_iff_eq.mpr c7
        have c7b1:((rd l0 x5_1) != (rd l1 x5_1))=false:=bne_eq_false_iff_eq.mpr c7
        clear c7
        have H':=yaa.mk H
        clear H
        have p799:0≤(x5_1:Int):=of_decide_eq_true zA
        have q799:x5_1<(l0.length:Int):=of_decide_eq_true zA
        obtain⟨ad799,e799,hx799_0⟩:=Kd.at_int HR0.out x5_1 p799 q799
        cases e799
        replace p799:=eq_true p799
        replace q799:=eq_true q799
        have p800:0≤(x5_1:Int):=of_decide_eq_true zA
        have q800:x5_1<(l1.length:Int):=of_decide_eq_true zA
        obtain⟨ad800,e800,hx800_0⟩:=Kd.at_int HR1.out x5_1 p800 q800
        cases e800
        replace p800:=eq_true p800
        replace q800:=eq_true q800
        go_wp2
        repeat (go_quiet (fail);try go_wp2)
        go_roundg k1
        case measure=>have:=HK1.out;omega
        case rel=>exact⟨(wrap64 (x5_1+1)),zF,H',⟨by have:=HK1.out;omega⟩,zD⟩
       ·rw[if_neg c7] at H
        have c7b0:((rd l0 x5_1) == (rd l1 x5_1))=false:=beq_eq_false_iff_ne.mpr c7
        have c7b1:((rd l0 x5_1) != (rd l1 x5_1))=true:=bne_iff_ne.mpr c7
        obtain rfl:=Option.some.inj H
        have p799:0≤(x5_1:Int):=of_decide_eq_true zA
        have q799:x5_1<(l0.length:Int):=of_decide_eq_true zA
        obtain⟨ad799,e799,hx799_0⟩:=Kd.at_int HR0.out x5_1 p799 q799
        cases e799
        replace p799:=eq_true p799
        replace q799:=eq_true q799
        have p800:0≤(x5_1:Int):=of_decide_eq_true zA
        have q800:x5_1<(l1.length:Int):=of_decide_eq_true zA
        obtain⟨ad800,e800,hx800_0⟩:=Kd.at_int HR1.out x5_1 p800 q800
        cases e800
        replace p800:=eq_true p800
        replace q800:=eq_true q800
        go_wp2
        repeat (go_quiet (fail);try go_wp2)
        go_ret
        exact⟨zF,zD⟩
      ·rw[if_neg c6] at H
       exact absurd H (by simp)
     ·rw[if_neg c5] at H
      exact absurd H (by simp)
   ·rw[if_neg c3] at H
    have c3b0:=decide_eq_false c3
    clear c3
    obtain rfl:=Option.some.inj H
    go_wp2
    repeat (go_quiet (fail);try go_wp2)
    go_ret
    exact⟨zF,zD⟩
def ybd.l0:Nat→List Int→List Int→Int→Option (List Int)
 | 0,_,_,_=>none
 | k+1,x0,x1,x5=>if x5<(x1.length:Int) then (if 0≤x5 then (if x0.length<140737488355328 then (ybd.l0 k (x0++[rd x1 x5]) x1 (wrap64 (x5+1))) else (none)) else (none)) else (some x0)
def ybd.f (k:Nat) (l0:List Int) (l1:List Int):Option (List Int):=ybd.l0 k l0 l1 0
theorem ybd.calls (k:Nat) (P0_:Nat→Prop) (u9000_:Value) (l0:List Int) (A1:Option Addr) (c1:Nat) (l1:List Int) (r:List Int) (w0 w:World) (hB:Below w0.heap.size w0 w) (ho0:Kd.R (Kd.int .u8) 5 w w0.heap.size P0_ u9000_ l0) (hr1:∀ W_,Kept w W_ (fun k_=>P0_ k_)→Kd.C (Kd.int .u8) W_ A1 l1.length l1) (hc1:l1.length≤c1) (h:ybd.f k l0 l1=some r) :
  Calls Tryz.prog 134 #[u9000_,.slice A1 l1.length c1] w fun e w'=>∃ v0_:Value,e=.returned (v0_)∧Kd.R (Kd.int .u8) 5 w' w0.heap.size (fun k_=>(P0_ k_∨w.heap.size≤k_)) v0_ r∧Below w0.heap.size w0 w'∧Kept w w' (fun k_=>P0_ k_):=by
 have HO0:=yaa.mk (show Kd.R (Kd.int .u8) 5 w w0.heap.size (fun k_=>(P0_ k_∨w.heap.size≤k_)) u9000_ l0 from Kd.R_mono ho0 (fun k_ hk=>(.inl hk)))
 have HR1:=yaa.mk hr1
 have HC1:=yaa.mk hc1
 clear hr1 hc1
 have HK:=yaa.mk (Kept.refl w (fun k_=>P0_ k_))
 have HW0:=yaa.mk hB.size
 have HB:=yaa.mk hB
 clear hB
 have H:(ybd.l0 k l0 l1 0)=some r:=h
 clear h
 have H':=yaa.mk H
 clear H
 go_enter Tryz.func134,Tryz.ntmps134
 go_wp2
 go_loopg [0,5] k (fun kq v0 v5 w'=>∃ (x0_1:List Int) (x5_1:Int),v5=.int .i64 x5_1∧yaa (ybd.l0 kq x0_1 l1 x5_1=some r)∧yaa (kq≤k)∧yaa (Kd.R (Kd.int .u8) 5 w' w0.heap.size (fun k_=>(P0_ k_∨w.heap.size≤k_)) v0 x0_1)∧yaa (Kept w w' (fun k_=>P0_ k_))∧yaa (Below w0.heap.size w0 w'))
 case atStart=>exact⟨(l0),(0),zF,H',⟨Nat.le_refl _⟩,⟨zR HO0.out⟩,⟨by repeat (first|(with_reducible first|exact HK.out|apply Kept.alloc|apply Kept.drewN|apply Kept.drew)|exact HK.out)⟩,⟨zB⟩⟩
 case round =>
  clear H'
  try clear c1
  try clear p2
  obtain⟨x0_1,x5_1,rfl,HA,HK1,HO_0,HK,HB⟩:=hrel
  cases gk with
  | zero=>exact absurd HA.out (by simp [ybd.l0])
  | succ k1 =>
   have H:=HA.out
   clear HA
   simp only[ybd.l0] at H
   by_cases c3:x5_1<(l1.length:Int)
   ·rw[if_pos c3] at H
    have c3b0:=decide_eq_true c3
    clear c3
    by_cases c4:0≤x5_1
    ·rw[if_pos c4] at H
     have c4b0:=decide_eq_true c4
     clear c4
     by_cases c5:x0_1.length<140737488355328
     ·rw[if_pos c5] at H
      have LMc5:=yaa.mk c5
      clear c5
      obtain⟨y802,hy802⟩:∃ y_:List Int,y_=(x0_1++[rd l1 x5_1]):=⟨_,rfl⟩
      replace H:(ybd.l0 k1 y802 l1 (wrap64 (x5_1+1)))=some r:=by first|(rw[hy802];with_reducible exact H)|(have H2_:=(Option.bind_some _ _).symm.trans H;rw[hy802];with_reducible exact H2_)|(have H2_:=(Option.bind_some _ _).symm.trans H;with_reducible exact H2_)|with_reducible exact H|(rw[hy802];exact H)|exact H
      have Ny802:=yaa.mk hy802
      clear hy802
      have H':=yaa.mk H
      clear H
      have p801:0≤(x5_1:Int):=of_decide_eq_true zA
      have q801:x5_1<(l1.length:Int):=of_decide_eq_true zA
      obtain⟨ad801,e801,hx801_0⟩:=Kd.at_int (Kd.C_kept_now HR1.out HK.out) x5_1 p801 q801
      cases e801
      replace p801:=eq_true p801
      replace q801:=eq_true q801
      go_wp2_with (first|((with_reducible refine ybe (b:=.append) (xs:=#[.tmp 12,.tmp 17]) rfl ?_);at_builtin;refine Kd.R_append (Kd.int .u8) (w0:=w0) w0.heap.size rfl (.tmp 12) (.tmp 17) 25 5 (.int .u8 0) 1 rfl Tryz.underlying25 yb9 rfl (by decide) (by omega) u0 x0_1 (rd l1 x5_1) [.int .u8 (rd l1 x5_1)] (fun k_=>(P0_ k_∨w.heap.size≤k_)) (fun _=>False) rfl rfl ?aP (fun _ hk=>hk.elim) ?aF ?aO ?aB ?aS ?aL ?_;(case aP=>exact rfl);(case aB=>exact zB);(case aF=>exact(fun k_ hk=>(.inr (Nat.le_trans (by first|exact HK.out.1|exact(show Kept w _ (fun k_=>P0_ k_) from by repeat (first|(with_reducible first|exact HK.out|apply Kept.alloc|apply Kept.drewN|apply Kept.drew)|exact HK.out)).1) hk))));(case aO=>exact(zR HO_0.out));(case aS=>exact(yac zB));(case aL=>have:=LMc5.out;omega);intro v803 w6 ho hb hg hat;rw[← Ny802.out] at ho;have n0_:=yaa.mk (hb);have n1_:=yaa.mk (Kept.of_grown (S:=(fun k_=>P0_ k_)) hg (by repeat (first|(with_reducible first|exact HK.out|apply Kept.alloc|apply Kept.drewN|apply Kept.drew)|exact HK.out)) (fun k_ e_=>(HO_0.out.1 k_ e_)));have n2_:=yaa.mk (ho);clear HB;clear HK;clear HO_0;have HB:=n0_;have HK:=n1_;have HO804:=n2_;clear n0_ n1_ n2_;clear ho hb hg hat))
      go_roundg k1
      case measure=>have:=HK1.out;omega
      case rel=>exact⟨(y802),(wrap64 (x5_1+1)),zF,H',⟨by have:=HK1.out;omega⟩,⟨zR HO804.out⟩,⟨by repeat (first|(with_reducible first|exact HK.out|apply Kept.alloc|apply Kept.drewN|apply Kept.drew)|exact HK.out)⟩,⟨zB⟩⟩
     ·rw[if_neg c5] at H
      exact absurd H (by simp)
    ·rw[if_neg c4] at H
     exact absurd H (by simp)
   ·rw[if_neg c3] at H
    have c3b0:=decide_eq_false c3
    clear c3
    obtain rfl:=Option.some.inj H
    go_wp2
    go_ret
    exact⟨_,zG,zR HO_0.out,zB,by repeat (first|(with_reducible first|exact HK.out|apply Kept.alloc|apply Kept.drewN|apply Kept.drew)|exact HK.out)⟩
end Go.Proofs.YteeikgjjgfdjgaaGreat.PK
end
