/-
  Parts of the proof: E13.
-/
import Derived.Test.YteeikgjjgfdjgaaGreatU10
set_option maxHeartbeats 8000000
set_option maxRecDepth 100000
section
namespace Go.Proofs.YteeikgjjgfdjgaaGreat.PK
open Go.RowKit YteeikgjjgfdjgaaGreatW.PrintWords YteeikgjjgfdjgaaGreatW.PrintLast YteeikgjjgfdjgaaGreatW.PrintMore
attribute [local go_sem] yco ycp yc5 yc4 yck ycl ycs yct
set_option linter.unusedVariables false
set_option linter.unusedSimpArgs false
def ybo.l0:Nat→List Int→List Int→Int→List Int→Int→Option (List Int×Int)
 | 0,_,_,_,_,_=>none
 | k+1,x0,x4,x5,x6,x7=>if x7<(x0.length:Int) then (if 0≤x7 then (if x6.length<17592186044416 then (ybo.l0 k x0 x4 x5 (x6++[IntKind.u64.wrap ((IntKind.u64.wrap (rd x0 x7))-(IntKind.u64.wrap (x5)))]) (wrap64 (x7+1))) else (none)) else (none)) else ((yao.f k x6).bind fun t693=>((yag.f k t693 x6).bind fun bt694=>((ydm.f x5).bind fun t698=>((yae.f k t698).bind fun t699=>((yam.f k x4 t699).bind fun t702=>(if t702.length<140737488355328 then ((yam.f k (t702++[(t693)%256]) bt694.1).bind fun t708=>(some (t708,0))) else (none)))))))
def ybo.f (k:Nat) (l0:List Int):Option (List Int×Int):=if (l0.length:Int) > 4096 then (some (([]:List Int),4)) else ((yae.f k (IntKind.u64.wrap ((l0.length:Int)))).bind fun t682=>(if (l0.length:Int)=0 then (some (t682,0)) else ((ybq.f k l0).bind fun t685=>(ybo.l0 k l0 t682 t685 (([]:List Int)) 0))))
theorem ybo.calls (k:Nat) (A0:Option Addr) (c0:Nat) (l0:List Int) (r1:List Int) (r2:Int) (w:World) (hr0:Kd.C (Kd.int .i64) w A0 l0.length l0) (hc0:l0.length≤c0) (h:ybo.f k l0=some (r1,r2)) :
  Calls Tryz.prog 97 #[.slice A0 l0.length c0] w fun e w'=>∃ v0_:Value,e=.returned (.tuple #[v0_,.int .i64 r2])∧Kd.R (Kd.int .u8) 5 w' w.heap.size (fun _=>True) v0_ r1∧Below w.heap.size w w':=by
 have HR0:=yaa.mk hr0
 have HC0:=yaa.mk hc0
 clear hr0 hc0
 have HB:=yaa.mk (Below.refl w.heap.size w)
 have H:(if (l0.length:Int) > 4096 then (some (([]:List Int),4)) else ((yae.f k (IntKind.u64.wrap ((l0.length:Int)))).bind fun t682=>(if (l0.length:Int)=0 then (some (t682,0)) else ((ybq.f k l0).bind fun t685=>(ybo.l0 k l0 t682 t685 (([]:List Int)) 0)))))=some (r1,r2):=h
 clear h
 by_cases c2:(l0.length:Int) > 4096
 ·rw[if_pos c2] at H
  have c2b0:decide (4096<(l0.length:Int))=true:=decide_eq_true c2
  have c2b1:decide (4096<l0.length)=true:=decide_eq_true (by omega)
  clear c2
  simp only[Option.some.injEq,Prod.mk.injEq] at H
  obtain⟨rfl,rfl⟩:=H
  go_enter Tryz.func97,Tryz.ntmps97
  go_wp2
  go_ret2
  exact⟨_,zG,zN,zB⟩
 ·rw[if_neg c2] at H
  have c2b0:decide (4096<(l0.length:Int))=false:=decide_eq_false c2
  have c2b1:decide (4096<l0.length)=false:=decide_eq_false (by omega)
  clear c2
  replace H:=Option.bind_eq_some_iff.mp H
  obtain⟨t682,A30,H⟩:=H
  try dsimp only at H
  have A3:=yaa.mk A30
  clear A30
  by_cases c4:(l0.length:Int)=0
  ·rw[if_pos c4] at H
   have c4b0:((l0.length:Int) == 0)=true:=beq_iff_eq.mpr c4
   have c4b1:((l0.length:Int) != 0)=false:=bne_eq_false_iff_eq.mpr c4
   clear c4
   simp only[Option.some.injEq,Prod.mk.injEq] at H
   obtain⟨rfl,rfl⟩:=H
   go_enter Tryz.func97,Tryz.ntmps97
   go_wp2_with (first|((with_reducible refine yah (f:=58) rfl ?_);refine ya6 (some 17) rfl rfl Tryz.func58 (by kernel_rfl) rfl #[.int .u64 (IntKind.u64.wrap ((l0.length:Int)))] rfl zE ?_;(with_reducible refine(yae.calls k (IntKind.u64.wrap ((l0.length:Int))) t682 _ A3.out).mono ?_);rintro e w5 ⟨v683,rfl,ho0,hb⟩;refine⟨_,rfl,?_⟩;have n0_:=yaa.mk (Kd.R_lower ho0 (yac zB));have n1_:=yaa.mk (yai zB hb);clear HB;have HO684:=n0_;have HB:=n1_;clear n0_ n1_;(try clear hb);(try clear hb2);(try clear hk);(try clear hi);(try clear ho0)))
   go_ret2
   exact⟨_,zG,zR HO684.out,zB⟩
  ·rw[if_neg c4] at H
   have c4b0:((l0.length:Int) == 0)=false:=beq_eq_false_iff_ne.mpr c4
   have c4b1:((l0.length:Int) != 0)=true:=bne_iff_ne.mpr c4
   have c4b2:¬ (l0=[]):=fun h_=>c4 (by rw[h_];rfl)
   replace H:=Option.bind_eq_some_iff.mp H
   obtain⟨t685,A60,H⟩:=H
   try dsimp only at H
   have A6:=yaa.mk A60
   clear A60
   obtain⟨y686,hy686⟩:∃ y_:List Int,y_=(([]:List Int)):=⟨_,rfl⟩
   replace H:(ybo.l0 k l0 t682 t685 y686 0)=some (r1,r2):=by first|(rw[hy686];with_reducible exact H)|(have H2_:=(Option.bind_some _ _).symm.trans H;rw[hy686];with_reducible exact H2_)|(have H2_:=(Option.bind_some _ _).symm.trans H;with_reducible exact H2_)|with_reducible exact H|(rw[hy686];exact H)|exact H
   have Ny686:=yaa.mk hy686
   clear hy686
   have H':=yaa.mk H
   clear H
   go_enter Tryz.func97,Tryz.ntmps97
   go_wp2_with (first|((with_reducible refine yah (f:=58) rfl ?_);refine ya6 (some 17) rfl rfl Tryz.func58 (by kernel_rfl) rfl #[.int .u64 (IntKind.u64.wrap ((l0.length:Int)))] rfl zE ?_;(with_reducible refine(yae.calls k (IntKind.u64.wrap ((l0.length:Int))) t682 _ A3.out).mono ?_);rintro e w7 ⟨v683,rfl,ho0,hb⟩;refine⟨_,rfl,?_⟩;have n0_:=yaa.mk (Kd.R_lower ho0 (yac zB));have n1_:=yaa.mk (yai zB hb);clear HB;have HO684:=n0_;have HB:=n1_;clear n0_ n1_;(try clear hb);(try clear hb2);(try clear hk);(try clear hi);(try clear ho0))|((with_reducible refine yah (f:=131) rfl ?_);refine ya6 (some 23) rfl rfl Tryz.func131 (by kernel_rfl) rfl #[.slice A0 l0.length c0] rfl zE ?_;(with_reducible refine(ybq.calls k _ _ l0 t685 _ ?side1 ?side2 A6.out).mono ?_);(case side1=>exact zC (Kd.C_below HR0.out HB.out));(case side2=>exact HC0.out);rintro e w' ⟨rfl,⟨nd,rfl⟩⟩;refine⟨_,rfl,?_⟩)|((with_reducible refine yb1 (N:=24) rfl ?_);refine Kd.R_lit (Kd.int .u64) _ 63 ?hg (N:=24) ?hd (xs:=([]:List Int)) (inner:=[]) (ok:=fun _=>True) (okp:=fun _=>True) ?hr ?hp (fun _ hk=>hk) trivial (Below.refl _ _) (Nat.le_refl _) (by simp) ?_;(case hd=>rfl);(case hg=>rfl);(case hr=>first|(go_simp;done)|(go_simp;rfl));(case hp=>exact(Reps.none _ _));intro v687 w8 ho9 hb hg_ hnew_;clear hg_ hnew_;(first|rw[← Ny686.out] at ho9|(simp only[Int.reduceToNat] at ho9;rw[← Ny686.out] at ho9));have n0_:=yaa.mk (Kd.R_below (zR HO684.out) hb);have n1_:=yaa.mk (Kd.R_lower ho9 (yac zB));have n2_:=yaa.mk (yai zB hb);clear HO684;clear HB;have HO684:=n0_;have HO688:=n1_;have HB:=n2_;clear n0_ n1_ n2_;clear hb ho9))
   go_loopg [6,7] k (fun kq v6 v7 w'=>∃ (x6_1:List Int) (x7_1:Int),v7=.int .i64 x7_1∧yaa (ybo.l0 kq l0 t682 t685 x6_1 x7_1=some (r1,r2))∧yaa (kq≤k)∧yaa (Kd.R (Kd.int .u8) 5 w' w.heap.size (fun _=>True) v683 t682)∧yaa (Kd.R (Kd.int .u64) 63 w' w.heap.size (fun _=>True) v6 x6_1)∧yaa (Below w.heap.size w w'))
   case atStart=>exact⟨(y686),(0),zF,H',⟨Nat.le_refl _⟩,⟨zR HO684.out⟩,⟨zR HO688.out⟩,⟨zB⟩⟩
   case round =>
    clear H'
    try clear c1
    try clear c2
    try clear c2b0
    try clear c2b1
    try clear p2
    try clear c4
    try clear c4b0
    try clear c4b1
    try clear c4b2
    try clear c5
    try clear c9
    obtain⟨x6_1,x7_1,rfl,HA,HK1,HO_4,HO_6,HB⟩:=hrel
    cases gk with
    | zero=>exact absurd HA.out (by simp [ybo.l0])
    | succ k1 =>
     have H:=HA.out
     clear HA
     simp only[ybo.l0] at H
     by_cases c10:x7_1<(l0.length:Int)
     ·rw[if_pos c10] at H
      have c10b0:=decide_eq_true c10
      clear c10
      by_cases c11:0≤x7_1
      ·rw[if_pos c11] at H
       have c11b0:=decide_eq_true c11
       clear c11
       by_cases c12:x6_1.length<17592186044416
       ·rw[if_pos c12] at H
        have LMc12:=yaa.mk c12
        clear c12
        obtain⟨y690,hy690⟩:∃ y_:List Int,y_=(x6_1++[IntKind.u64.wrap ((IntKind.u64.wrap (rd l0 x7_1))-(IntKind.u64.wrap (t685)))]):=⟨_,rfl⟩
        replace H:(ybo.l0 k1 l0 t682 t685 y690 (wrap64 (x7_1+1)))=some (r1,r2):=by first|(rw[hy690];with_reducible exact H)|(have H2_:=(Option.bind_some _ _).symm.trans H;rw[hy690];with_reducible exact H2_)|(have H2_:=(Option.bind_some _ _).symm.trans H;with_reducible exact H2_)|with_reducible exact H|(rw[hy690];exact H)|exact H
        have Ny690:=yaa.mk hy690
        clear hy690
        have H':=yaa.mk H
        clear H
        have p689:0≤(x7_1:Int):=of_decide_eq_true zA
        have q689:x7_1<(l0.length:Int):=of_decide_eq_true zA
        obtain⟨ad689,e689,hx689_0⟩:=Kd.at_int HR0.out x7_1 p689 q689
        cases e689
        replace hx689_0:=(HB.out.cell (World.block_lt_of_cell? w _ hx689_0)).trans hx689_0
        replace p689:=eq_true p689
        replace q689:=eq_true q689
        go_wp2_with (first|((with_reducible refine ybe (b:=.append) (xs:=#[.tmp 31,.tmp 40]) rfl ?_);at_builtin;refine Kd.R_append (Kd.int .u64) (w0:=w) w.heap.size rfl (.tmp 31) (.tmp 40) 66 63 (.int .u64 0) 8 rfl Tryz.underlying66 yhb rfl (by decide) (by omega) u6 x6_1 (IntKind.u64.wrap ((IntKind.u64.wrap (rd l0 x7_1))-(IntKind.u64.wrap (t685)))) [.int .u64 (IntKind.u64.wrap ((IntKind.u64.wrap (rd l0 x7_1))-(IntKind.u64.wrap (t685))))] (fun _=>True) (fun _=>False) rfl rfl ?aP (fun _ hk=>hk.elim) ?aF ?aO ?aB ?aS ?aL ?_;(case aP=>exact rfl);(case aB=>exact zB);(case aF=>exact fun _ _=>trivial);(case aO=>exact(zR HO_6.out));(case aS=>exact(yac zB));(case aL=>have:=LMc12.out;omega);intro v691 w13 ho hb hg hat;rw[← Ny690.out] at ho;have n0_:=yaa.mk (Kd.R_over' (zR HO_4.out) (Kd.R_typed (zR HO_6.out)) (by decide) hg);have n1_:=yaa.mk (hb);have n2_:=yaa.mk (ho);clear HO_4;clear HB;clear HO_6;have HO_4:=n0_;have HB:=n1_;have HO692:=n2_;clear n0_ n1_ n2_;clear ho hb hg hat))
        go_roundg k1
        case measure=>have:=HK1.out;omega
        case rel=>exact⟨(y690),(wrap64 (x7_1+1)),zF,H',⟨by have:=HK1.out;omega⟩,⟨zR HO_4.out⟩,⟨zR HO692.out⟩,⟨zB⟩⟩
       ·rw[if_neg c12] at H
        exact absurd H (by simp)
      ·rw[if_neg c11] at H
       exact absurd H (by simp)
     ·rw[if_neg c10] at H
      have c10b0:=decide_eq_false c10
      clear c10
      replace H:=Option.bind_eq_some_iff.mp H
      obtain⟨t693,A140,H⟩:=H
      try dsimp only at H
      have A14:=yaa.mk A140
      clear A140
      replace H:=Option.bind_eq_some_iff.mp H
      obtain⟨⟨t694,t695⟩,A150,H⟩:=H
      try dsimp only at H
      have A15:=yaa.mk A150
      clear A150
      replace H:=Option.bind_eq_some_iff.mp H
      obtain⟨t698,A160,H⟩:=H
      try dsimp only at H
      have A16:=yaa.mk A160
      clear A160
      replace H:=Option.bind_eq_some_iff.mp H
      obtain⟨t699,A170,H⟩:=H
      try dsimp only at H
      have A17:=yaa.mk A170
      clear A170
      replace H:=Option.bind_eq_some_iff.mp H
      obtain⟨t702,A180,H⟩:=H
      try dsimp only at H
      have A18:=yaa.mk A180
      clear A180
      by_cases c19:t702.length<140737488355328
      ·rw[if_pos c19] at H
       have LMc19:=yaa.mk c19
       clear c19
       obtain⟨y705,hy705⟩:∃ y_:List Int,y_=(t702++[(t693)%256]):=⟨_,rfl⟩
       replace H:((yam.f k1 y705 t694).bind fun t708=>(some (t708,0)))=some (r1,r2):=by first|(rw[hy705];with_reducible exact H)|(have H2_:=(Option.bind_some _ _).symm.trans H;rw[hy705];with_reducible exact H2_)|(have H2_:=(Option.bind_some _ _).symm.trans H;with_reducible exact H2_)|with_reducible exact H|(rw[hy705];exact H)|exact H
       have Ny705:=yaa.mk hy705
       clear hy705
       replace H:=Option.bind_eq_some_iff.mp H
       obtain⟨t708,A200,H⟩:=H
       try dsimp only at H
       have A20:=yaa.mk A200
       clear A200
       simp only[Option.some.injEq,Prod.mk.injEq] at H
       obtain⟨rfl,rfl⟩:=H
       obtain⟨Ao21,co21,eo21⟩:=Kd.R_slice HO_6.out
       subst eo21
       go_wp2_with (first|((with_reducible refine yah (f:=74) rfl ?_);refine ya6 (some 43) rfl rfl Tryz.func74 (by kernel_rfl) rfl #[.slice Ao21 x6_1.length co21] rfl zE ?_;(with_reducible refine(yao.calls k1 _ _ x6_1 t693 _ ?side1 ?side2 A14.out).mono ?_);(case side1=>exact zC (Kd.R_reads' HO_6.out).2.2);(case side2=>exact(Kd.R_reads' HO_6.out).2.1);rintro e w' ⟨rfl,⟨nd,rfl⟩⟩;refine⟨_,rfl,?_⟩)|((with_reducible refine yah (f:=59) rfl ?_);refine ya6 (some 47) rfl rfl Tryz.func59 (by kernel_rfl) rfl #[.int .i64 t693,.slice Ao21 x6_1.length co21] rfl zE ?_;(with_reducible refine(yag.calls k1 t693 _ _ x6_1 t694 t695 _ ?side1 ?side2 A15.out).mono ?_);(case side1=>exact zC (Kd.R_reads' HO_6.out).2.2);(case side2=>exact(Kd.R_reads' HO_6.out).2.1);rintro e w22 ⟨v696,rfl,ho0,hb⟩;refine⟨_,rfl,?_⟩;have n0_:=yaa.mk (Kd.R_elder' (zR HO_4.out) (Kd.R_base ho0) hb);have n1_:=yaa.mk (Kd.R_below (zR HO_6.out) hb);have n2_:=yaa.mk (Kd.R_lower (Kd.R_new' ho0 (Kd.R_lt (zR HO_4.out))) (yac zB));have n3_:=yaa.mk (yai zB hb);clear HO_4;clear HO_6;clear HB;have HO_4:=n0_;have HO_6:=n1_;have HO697:=n2_;have HB:=n3_;clear n0_ n1_ n2_ n3_;(try clear hb);(try clear hb2);(try clear hk);(try clear hi);(try clear ho0))|((with_reducible refine yah (f:=95) rfl ?_);refine ya6 (some 52) rfl rfl Tryz.func95 (by kernel_rfl) rfl #[.int .i64 t685] rfl zE ?_;(with_reducible refine(ydm.calls t685 t698 _ A16.out).mono ?_);rintro e w' ⟨rfl,⟨nd,rfl⟩⟩;refine⟨_,rfl,?_⟩)|((with_reducible refine yah (f:=58) rfl ?_);refine ya6 (some 53) rfl rfl Tryz.func58 (by kernel_rfl) rfl #[.int .u64 t698] rfl zE ?_;(with_reducible refine(yae.calls k1 t698 t699 _ A17.out).mono ?_);rintro e w23 ⟨v700,rfl,ho0,hb⟩;refine⟨_,rfl,?_⟩;have n0_:=yaa.mk (Kd.R_elder' (zR HO_4.out) (Kd.R_base ho0) hb);have n1_:=yaa.mk (Kd.R_below (zR HO_6.out) hb);have n2_:=yaa.mk (Kd.R_elder' (zR HO697.out) (Kd.R_base ho0) hb);have n3_:=yaa.mk (Kd.R_lower (Kd.R_new' (Kd.R_new' ho0 (Kd.R_lt (zR HO_4.out))) (Kd.R_lt (zR HO697.out))) (yac zB));have n4_:=yaa.mk (yai zB hb);clear HO_4;clear HO_6;clear HO697;clear HB;have HO_4:=n0_;have HO_6:=n1_;have HO697:=n2_;have HO701:=n3_;have HB:=n4_;clear n0_ n1_ n2_ n3_ n4_;(try clear hb);(try clear hb2);(try clear hk);(try clear hi);(try clear ho0);obtain⟨Ao24,co24,eo24⟩:=Kd.R_slice HO_4.out;subst eo24;obtain⟨Ao25,co25,eo25⟩:=Kd.R_slice HO701.out;subst eo25)|((with_reducible refine yah (f:=47) rfl ?_);refine ya6 (some 54) rfl rfl Tryz.func47 (by kernel_rfl) rfl #[.slice Ao24 t682.length co24,.slice Ao25 t699.length co25] rfl zE ?_;(with_reducible refine(yam.calls k1 _ _ t682 _ _ t699 t702 _ ?side1 ?side2 ?side3 ?side4 A18.out).mono ?_);(case side1=>exact zC (Kd.R_reads' HO_4.out).2.2);(case side2=>exact(Kd.R_reads' HO_4.out).2.1);(case side3=>exact zC (Kd.R_reads' HO701.out).2.2);(case side4=>exact(Kd.R_reads' HO701.out).2.1);rintro e w26 ⟨v703,rfl,ho0,hb⟩;refine⟨_,rfl,?_⟩;have n0_:=yaa.mk (Kd.R_elder' (zR HO_4.out) (Kd.R_base ho0) hb);have n1_:=yaa.mk (Kd.R_below (zR HO_6.out) hb);have n2_:=yaa.mk (Kd.R_elder' (zR HO697.out) (Kd.R_base ho0) hb);have n3_:=yaa.mk (Kd.R_elder' (zR HO701.out) (Kd.R_base ho0) hb);have n4_:=yaa.mk (Kd.R_lower (Kd.R_new' (Kd.R_new' (Kd.R_new' ho0 (Kd.R_lt (zR HO_4.out))) (Kd.R_lt (zR HO697.out))) (Kd.R_lt (zR HO701.out))) (yac zB));have n5_:=yaa.mk (yai zB hb);clear HO_4;clear HO_6;clear HO697;clear HO701;clear HB;have HO_4:=n0_;have HO_6:=n1_;have HO697:=n2_;have HO701:=n3_;have HO704:=n4_;have HB:=n5_;clear n0_ n1_ n2_ n3_ n4_ n5_;(try clear hb);(try clear hb2);(try clear hk);(try clear hi);(try clear ho0))|((with_reducible refine ybe (b:=.append) (xs:=#[.tmp 55,.tmp 58]) rfl ?_);at_builtin;refine Kd.R_append (Kd.int .u8) (w0:=w) w.heap.size rfl (.tmp 55) (.tmp 58) 25 5 (.int .u8 0) 1 rfl Tryz.underlying25 yb9 rfl (by decide) (by omega) v703 t702 ((t693)%256) [.int .u8 ((t693)%256)] (fun k_=>some k_≠(.slice Ao24 t682.length co24:Value).ownBlock∧some k_≠(v696:Value).ownBlock∧some k_≠(.slice Ao25 t699.length co25:Value).ownBlock) (fun _=>False) rfl rfl ?aP (fun _ hk=>hk.elim) ?aF ?aO ?aB ?aS ?aL ?_;(case aP=>exact rfl);(case aB=>exact zB);(case aF=>exact(fun k_ hk=>⟨Kd.fresh' (Kd.R_lt (zR HO_4.out)) k_ hk,Kd.fresh' (Kd.R_lt (zR HO697.out)) k_ hk,Kd.fresh' (Kd.R_lt (zR HO701.out)) k_ hk⟩));(case aO=>exact(by (with_reducible repeat (first|apply Kd.R_alloc|apply Kd.R_drewN|apply Kd.R_drew));exact Kd.R_mono HO704.out (fun _ hk=>⟨hk.1.1.2,⟨hk.1.2,hk.2⟩⟩)));(case aS=>exact(yac zB));(case aL=>have:=LMc19.out;omega);intro v706 w27 ho hb hg hat;rw[← Ny705.out] at ho;have n0_:=yaa.mk (Kd.R_after (ok:=(fun k_=>some k_≠(v696:Value).ownBlock∧some k_≠(.slice Ao25 t699.length co25:Value).ownBlock)) (by (with_reducible repeat (first|apply Kd.R_alloc|apply Kd.R_drewN|apply Kd.R_drew));exact Kd.R_mono HO_4.out (fun _ hk=>⟨⟨hk.1.1.2,hk.1.2⟩,hk.2⟩)) hg hat);have n1_:=yaa.mk (Kd.R_over' (zR HO_6.out) (Kd.R_typed (zR HO704.out)) (by decide) hg);have n2_:=yaa.mk (Kd.R_after (ok:=(fun k_=>some k_≠(.slice Ao24 t682.length co24:Value).ownBlock∧some k_≠(.slice Ao25 t699.length co25:Value).ownBlock)) (by (with_reducible repeat (first|apply Kd.R_alloc|apply Kd.R_drewN|apply Kd.R_drew));exact Kd.R_mono HO697.out (fun _ hk=>⟨⟨hk.1.1.2,hk.1.2⟩,hk.2⟩)) hg hat);have n3_:=yaa.mk (Kd.R_after (ok:=(fun k_=>some k_≠(.slice Ao24 t682.length co24:Value).ownBlock∧some k_≠(v696:Value).ownBlock)) (by (with_reducible repeat (first|apply Kd.R_alloc|apply Kd.R_drewN|apply Kd.R_drew));exact Kd.R_mono HO701.out (fun _ hk=>⟨⟨hk.1.1.2,hk.1.2⟩,hk.2⟩)) hg hat);have n4_:=yaa.mk (hb);have n5_:=yaa.mk (ho);clear HO_4;clear HO_6;clear HO697;clear HO701;clear HB;clear HO704;have HO_4:=n0_;have HO_6:=n1_;have HO697:=n2_;have HO701:=n3_;have HB:=n4_;have HO707:=n5_;clear n0_ n1_ n2_ n3_ n4_ n5_;clear ho hb hg hat;obtain⟨Ao28,co28,eo28⟩:=Kd.R_slice HO707.out;subst eo28;obtain⟨Ao29,co29,eo29⟩:=Kd.R_slice HO697.out;subst eo29)|((with_reducible refine yah (f:=47) rfl ?_);refine ya6 (some 62) rfl rfl Tryz.func47 (by kernel_rfl) rfl #[.slice Ao28 y705.length co28,.slice Ao29 t694.length co29] rfl zE ?_;(with_reducible refine(yam.calls k1 _ _ y705 _ _ t694 t708 _ ?side1 ?side2 ?side3 ?side4 A20.out).mono ?_);(case side1=>exact zC (Kd.R_reads' HO707.out).2.2);(case side2=>exact(Kd.R_reads' HO707.out).2.1);(case side3=>exact zC (Kd.R_reads' HO697.out).2.2);(case side4=>exact(Kd.R_reads' HO697.out).2.1);rintro e w30 ⟨v709,rfl,ho0,hb⟩;refine⟨_,rfl,?_⟩;have n0_:=yaa.mk (Kd.R_elder' (zR HO_4.out) (Kd.R_base ho0) hb);have n1_:=yaa.mk (Kd.R_below (zR HO_6.out) hb);have n2_:=yaa.mk (Kd.R_elder' (zR HO697.out) (Kd.R_base ho0) hb);have n3_:=yaa.mk (Kd.R_elder' (zR HO701.out) (Kd.R_base ho0) hb);have n4_:=yaa.mk (Kd.R_elder' (zR HO707.out) (Kd.R_base ho0) hb);have n5_:=yaa.mk (Kd.R_lower (Kd.R_new' (Kd.R_new' (Kd.R_new' (Kd.R_new' ho0 (Kd.R_lt (zR HO_4.out))) (Kd.R_lt (zR HO697.out))) (Kd.R_lt (zR HO701.out))) (Kd.R_lt (zR HO707.out))) (yac zB));have n6_:=yaa.mk (yai zB hb);clear HO_4;clear HO_6;clear HO697;clear HO701;clear HO707;clear HB;have HO_4:=n0_;have HO_6:=n1_;have HO697:=n2_;have HO701:=n3_;have HO707:=n4_;have HO710:=n5_;have HB:=n6_;clear n0_ n1_ n2_ n3_ n4_ n5_ n6_;(try clear hb);(try clear hb2);(try clear hk);(try clear hi);(try clear ho0)))
       go_ret2
       exact⟨_,zG,by (with_reducible repeat (first|apply Kd.R_alloc|apply Kd.R_drewN|apply Kd.R_drew));exact Kd.R_mono HO710.out (fun _ hk=>trivial),zB⟩
      ·rw[if_neg c19] at H
       exact absurd H (by simp)
def yed.f (k:Nat) (a0:Int):Option (Int):=if a0=0 then (some 0) else ((yao.f k (([IntKind.u64.wrap (wrap64 (a0-1))]:List Int))).bind fun t714=>(some t714))
theorem yed.calls (k:Nat) (a0:Int) (r:Int) (w:World) (h:yed.f k a0=some r) :
  Calls Tryz.prog 119 #[.int .i64 a0] w fun e w'=>e=.returned (.int .i64 r)∧Below w.heap.size w w':=by
 have HB:=yaa.mk (Below.refl w.heap.size w)
 have H:(if a0=0 then (some 0) else ((yao.f k (([IntKind.u64.wrap (wrap64 (a0-1))]:List Int))).bind fun t714=>(some t714)))=some r:=h
 clear h
 by_cases c2:a0=0
 ·rw[if_pos c2] at H
  have c2b0:(a0 == 0)=true:=beq_iff_eq.mpr c2
  have c2b1:(a0 != 0)=false:=bne_eq_false_iff_eq.mpr c2
  clear c2
  obtain rfl:=Option.some.inj H
  go_enter Tryz.func119,Tryz.ntmps119
  go_wp2
  go_ret
  exact⟨zG,zB⟩
 ·rw[if_neg c2] at H
  have c2b0:(a0 == 0)=false:=beq_eq_false_iff_ne.mpr c2
  have c2b1:(a0 != 0)=true:=bne_iff_ne.mpr c2
  obtain⟨y711,hy711⟩:∃ y_:List Int,y_=(([IntKind.u64.wrap (wrap64 (a0-1))]:List Int)):=⟨_,rfl⟩
  replace H:((yao.f k y711).bind fun t714=>(some t714))=some r:=by first|(rw[hy711];with_reducible exact H)|(have H2_:=(Option.bind_some _ _).symm.trans H;rw[hy711];with_reducible exact H2_)|(have H2_:=(Option.bind_some _ _).symm.trans H;with_reducible exact H2_)|with_reducible exact H|(rw[hy711];exact H)|exact H
  have Ny711:=yaa.mk hy711
  clear hy711
  replace H:=Option.bind_eq_some_iff.mp H
  obtain⟨t714,A30,H⟩:=H
  try dsimp only at H
  have A3:=yaa.mk A30
  clear A30
  obtain rfl:=Option.some.inj H
  go_enter Tryz.func119,Tryz.ntmps119
  go_wp2_with (first|((with_reducible refine yb1 (N:=8) rfl ?_);refine Kd.R_lit (Kd.int .u64) _ 63 ?hg (N:=8) ?hd (xs:=([IntKind.u64.wrap (wrap64 (a0-1))]:List Int)) (inner:=[.int .u64 (IntKind.u64.wrap (wrap64 (a0-1)))]) (ok:=fun _=>True) (okp:=fun _=>True) ?hr ?hp (fun _ hk=>hk) trivial (Below.refl _ _) (Nat.le_refl _) (by simp) ?_;(case hd=>rfl);(case hg=>rfl);(case hr=>first|(go_simp;done)|(go_simp;rfl));(case hp=>exact(Reps.one (show Kd.M (Kd.int .u64) _ _ _ (IntKind.u64.wrap (wrap64 (a0-1))) [.int .u64 (IntKind.u64.wrap (wrap64 (a0-1)))] from rfl) (Reps.none _ _)));intro v712 w4 ho5 hb hg_ hnew_;clear hg_ hnew_;(first|rw[← Ny711.out] at ho5|(simp only[Int.reduceToNat] at ho5;rw[← Ny711.out] at ho5));have n0_:=yaa.mk (Kd.R_lower ho5 (yac zB));have n1_:=yaa.mk (yai zB hb);clear HB;have HO713:=n0_;have HB:=n1_;clear n0_ n1_;clear hb ho5;obtain⟨Ao6,co6,eo6⟩:=Kd.R_slice HO713.out;subst eo6)|((with_reducible refine yah (f:=74) rfl ?_);refine ya6 (some 9) rfl rfl Tryz.func74 (by kernel_rfl) rfl #[.slice Ao6 y711.length co6] rfl zE ?_;(with_reducible refine(yao.calls k _ _ y711 t714 _ ?side1 ?side2 A3.out).mono ?_);(case side1=>exact zC (Kd.R_reads' HO713.out).2.2);(case side2=>exact(Kd.R_reads' HO713.out).2.1);rintro e w' ⟨rfl,⟨nd,rfl⟩⟩;refine⟨_,rfl,?_⟩))
  go_ret
  exact⟨zG,zB⟩
mutual
def yaq.l0:Nat→List Int→List Int→Int→Option (Int)
 | 0,_,_,_=>none
 | k+1,x0,x1,x5=>if x5<(x0.length:Int) then (yaq.j1 k x0 x1 x5 (decide (x5<(x1.length:Int)))) else (yaq.j1 k x0 x1 x5 false)
def yaq.j1:Nat→List Int→List Int→Int→Bool→Option (Int)
 | 0,_,_,_,_=>none
 | k+1,x0,x1,x5,x15=>if x15=true then (if 0≤x5 then (if x5<(x0.length:Int) then (if x5<(x1.length:Int) then (if (rd x0 x5)<(rd x1 x5) then (some (-1)) else (if (rd x0 x5) > (rd x1 x5) then (some 1) else (yaq.l0 k x0 x1 (wrap64 (x5+1))))) else (none)) else (none)) else (none)) else (if (x0.length:Int)<(x1.length:Int) then (some (-1)) else (if (x0.length:Int) > (x1.length:Int) then (some 1) else (some 0)))
end
def yaq.f (k:Nat) (l0:List Int) (l1:List Int):Option (Int):=yaq.l0 k l0 l1 0
theorem yaq.mono_l:∀ k,(∀ y0 y1 y2,LeO (yaq.l0 k y0 y1 y2) (yaq.l0 (k+1) y0 y1 y2))∧(∀ y0 y1 y2 y3,LeO (yaq.j1 k y0 y1 y2 y3) (yaq.j1 (k+1) y0 y1 y2 y3))
 | 0=>⟨fun _ _ _ r h=>by simp [yaq.l0] at h,fun _ _ _ _ r h=>by simp [yaq.j1] at h⟩
 | k+1=>by
  obtain⟨ih0,ih1⟩:=yaq.mono_l k
  refine⟨?_,?_⟩
  ·intro y0 y1 y2
   unfold yaq.l0
   repeat' first
   | (with_reducible exact ih0 _ _ _)
   | (with_reducible exact ih1 _ _ _ _)
   | (with_reducible exact LeO.refl _)
   | (with_reducible exact LeO.none _)
   | (with_reducible refine LeO.ite ?_ ?_)
   | (with_reducible refine LeO.bind ?_ (fun _=>?_))
  ·intro y0 y1 y2 y3
   unfold yaq.j1
   repeat' first
   | (with_reducible exact ih0 _ _ _)
   | (with_reducible exact ih1 _ _ _ _)
   | (with_reducible exact LeO.refl _)
   | (with_reducible exact LeO.none _)
   | (with_reducible refine LeO.ite ?_ ?_)
   | (with_reducible refine LeO.bind ?_ (fun _=>?_))
theorem yaq.mono:∀ a0 a1 k,LeO (yaq.f k a0 a1) (yaq.f (k+1) a0 a1):=by
 intro a0 a1 k
 obtain⟨ih0,ih1⟩:=yaq.mono_l k
 unfold yaq.f
 repeat' first
   | (with_reducible exact ih0 _ _ _)
   | (with_reducible exact ih1 _ _ _ _)
   | (with_reducible exact LeO.refl _)
   | (with_reducible exact LeO.none _)
   | (with_reducible refine LeO.ite ?_ ?_)
   | (with_reducible refine LeO.bind ?_ (fun _=>?_))
theorem yaq.calls (k:Nat) (A0:Option Addr) (c0:Nat) (l0:List Int) (A1:Option Addr) (c1:Nat) (l1:List Int) (r:Int) (w:World) (hr0:Kd.C (Kd.int .u8) w A0 l0.length l0) (hc0:l0.length≤c0) (hr1:Kd.C (Kd.int .u8) w A1 l1.length l1) (hc1:l1.length≤c1) (h:yaq.f k l0 l1=some r) :
  Calls Tryz.prog 118 #[.slice A0 l0.length c0,.slice A1 l1.length c1] w fun e w'=>e=.returned (.int .i64 r)∧yav w w':=by
 have HR0:=yaa.mk hr0
 have HC0:=yaa.mk hc0
 clear hr0 hc0
 have HR1:=yaa.mk hr1
 have HC1:=yaa.mk hc1
 clear hr1 hc1
 have H:(yaq.l0 k l0 l1 0)=some r:=h
 clear h
 have H':=yaa.mk H
 clear H
 go_enter Tryz.func118,Tryz.ntmps118
 go_wp2
 repeat (go_quiet (fail);try go_wp2)
 go_loopg [5] k (fun kq v5 w'=>∃ (x5_1:Int),v5=.int .i64 x5_1∧yaa (yaq.l0 kq l0 l1 x5_1=some r)∧yaa (kq≤k)∧yav w w')
 case atStart=>exact⟨(0),zF,H',⟨Nat.le_refl _⟩,zD⟩
 case round =>
  clear H'
  try clear c1
  try clear p2
  obtain⟨x5_1,rfl,HA,HK1,⟨m1,rfl⟩⟩:=hrel
  cases gk with
  | zero=>exact absurd HA.out (by simp [yaq.l0])
  | succ k1 =>
   have H:=HA.out
   clear HA
   simp only[yaq.l0] at H
   have HC3:=yaa.mk H
   clear H
   go_upto_region 2 with (fail)
   repeat (go_quiet (fail);go_upto_region 2 with (fail))
   go_cut [15] (fun v15 wc=>∃ (kq:Nat) (x15_2:Bool),v15=.bool x15_2∧yaa (yaq.j1 kq l0 l1 x5_1 x15_2=some r)∧yaa (kq≤k1)∧yav w wc)
   case first =>
    have H:=HC3.out
    clear HC3
    by_cases c4:x5_1<(l0.length:Int)
    ·rw[if_pos c4] at H
     have c4b0:=decide_eq_true c4
     clear c4
     (first|rw[c4b0]|(simp only[ya4,yba];rw[c4b0])|skip)
     have H':=yaa.mk H
     clear H
     go_wp2
     repeat (go_quiet (fail);try go_wp2)
     go_meet
     case rel=>exact⟨_,(decide (x5_1<(l1.length:Int))),zF,H',⟨by have:=HK1.out;first|omega|exact Nat.le_refl _⟩,zD⟩
    ·rw[if_neg c4] at H
     have c4b0:=decide_eq_false c4
     clear c4
     (first|rw[c4b0]|(simp only[ya4,yba];rw[c4b0])|skip)
     have H':=yaa.mk H
     clear H
     go_wp2
     repeat (go_quiet (fail);try go_wp2)
     go_meet
     case rel=>exact⟨_,(false),zF,H',⟨by have:=HK1.out;first|omega|exact Nat.le_refl _⟩,zD⟩
   case rest =>
    clear HC3
    try clear c1
    try clear p2
    try clear c4
    try clear c4b0
    try clear p2
    obtain⟨kq,x15_2,rfl,HA,HJ2,⟨mc2,rfl⟩⟩:=hcut
    cases kq with
    | zero=>exact absurd HA.out (by simp [yaq.j1])
    | succ kj2 =>
     have H:=HA.out
     clear HA
     simp only[yaq.j1] at H
     by_cases c5:x15_2=true
     ·subst c5
      have H1:(if 0≤x5_1 then (if x5_1<(l0.length:Int) then (if x5_1<(l1.length:Int) then (if (rd l0 x5_1)<(rd l1 x5_1) then (some (-1)) else (if (rd l0 x5_1) > (rd l1 x5_1) then (some 1) else (yaq.l0 kj2 l0 l1 (wrap64 (x5_1+1))))) else (none)) else (none)) else (none))=some r:=by rw[if_pos rfl] at H;exact H
      clear H
      have H:=H1
      clear H1
      by_cases c6:0≤x5_1
      ·rw[if_pos c6] at H
       have c6b0:=decide_eq_true c6
       clear c6
       by_cases c7:x5_1<(l0.length:Int)
       ·rw[if_pos c7] at H
        have c7b0:=decide_eq_true c7
        clear c7
        by_cases c8:x5_1<(l1.length:Int)
        ·rw[if_pos c8] at H
         have c8b0:=decide_eq_true c8
         clear c8
         by_cases c9:(rd l0 x5_1)<(rd l1 x5_1)
         ·rw[if_pos c9] at H
          have c9b0:=decide_eq_true c9
          clear c9
          obtain rfl:=Option.some.inj H
          have p715:0≤(x5_1:Int):=of_decide_eq_true zA
          have q715:x5_1<(l0.length:Int):=of_decide_eq_true zA
          obtain⟨ad715,e715,hx715_0⟩:=Kd.at_int HR0.out x5_1 p715 q715
          cases e715
          replace p715:=eq_true p715
          replace q715:=eq_true q715
          have p716:0≤(x5_1:Int):=of_decide_eq_true zA
          have q716:x5_1<(l1.length:Int):=of_decide_eq_true zA
          obtain⟨ad716,e716,hx716_0⟩:=Kd.at_int HR1.out x5_1 p716 q716
          cases e716
          replace p716:=eq_true p716
          replace q716:=eq_true q716
          go_wp2
          repeat (go_quiet (fail);try go_wp2)
          go_ret
          exact⟨zF,zD⟩
         ·rw[if_neg c9] at H
          have c9b0:=decide_eq_false c9
          clear c9
          by_cases c10:(rd l0 x5_1) > (rd l1 x5_1)
          ·rw[if_pos c10] at H
           have c10b0:decide ((rd l1 x5_1)<(rd l0 x5_1))=true:=decide_eq_true c10
           clear c10
           obtain rfl:=Option.some.inj H
           have p715:0≤(x5_1:Int):=of_decide_eq_true zA
           have q715:x5_1<(l0.length:Int):=of_decide_eq_true zA
           obtain⟨ad715,e715,hx715_0⟩:=Kd.at_int HR0.out x5_1 p715 q715
           cases e715
           replace p715:=eq_true p715
           replace q715:=eq_true q715
           have p716:0≤(x5_1:Int):=of_decide_eq_true zA
           have q716:x5_1<(l1.length:Int):=of_decide_eq_true zA
           obtain⟨ad716,e716,hx716_0⟩:=Kd.at_int HR1.out x5_1 p716 q716
           cases e716
           replace p716:=eq_true p716
           replace q716:=eq_true q716
           have p717:0≤(x5_1:Int):=of_decide_eq_true zA
           have q717:x5_1<(l0.length:Int):=of_decide_eq_true zA
           obtain⟨ad717,e717,hx717_0⟩:=Kd.at_int HR0.out x5_1 p717 q717
           obtain rfl:ad715=ad717:=(by injection e717)
           replace p717:=eq_true p717
           replace q717:=eq_true q717
           have p718:0≤(x5_1:Int):=of_decide_eq_true zA
           have q718:x5_1<(l1.length:Int):=of_decide_eq_true zA
           obtain⟨ad718,e718,hx718_0⟩:=Kd.at_int HR1.out x5_1 p718 q718
           obtain rfl:ad716=ad718:=(by injection e718)
           replace p718:=eq_true p718
           replace q718:=eq_true q718
           go_wp2
           repeat (go_quiet (fail);try go_wp2)
           go_ret
           exact⟨zF,zD⟩
          ·rw[if_neg c10] at H
           have c10b0:decide ((rd l1 x5_1)<(rd l0 x5_1))=false:=decide_eq_false c10
           clear c10
           have H':=yaa.mk H
           clear H
           have p715:0≤(x5_1:Int):=of_decide_eq_true zA
           have q715:x5_1<(l0.length:Int):=of_decide_eq_true zA
           obtain⟨ad715,e715,hx715_0⟩:=Kd.at_int HR0.out x5_1 p715 q715
           cases e715
           replace p715:=eq_true p715
           replace q715:=eq_true q715
           have p716:0≤(x5_1:Int):=of_decide_eq_true zA
           have q716:x5_1<(l1.length:Int):=of_decide_eq_true zA
           obtain⟨ad716,e716,hx716_0⟩:=Kd.at_int HR1.out x5_1 p716 q716
           cases e716
           replace p716:=eq_true p716
           replace q716:=eq_true q716
           have p717:0≤(x5_1:Int):=of_decide_eq_true zA
           have q717:x5_1<(l0.length:Int):=of_decide_eq_true zA
           obtain⟨ad717,e717,hx717_0⟩:=Kd.at_int HR0.out x5_1 p717 q717
           obtain rfl:ad715=ad717:=(by injection e717)
           replace p717:=eq_true p717
           replace q717:=eq_true q717
           have p718:0≤(x5_1:Int):=of_decide_eq_true zA
           have q718:x5_1<(l1.length:Int):=of_decide_eq_true zA
           obtain⟨ad718,e718,hx718_0⟩:=Kd.at_int HR1.out x5_1 p718 q718
           obtain rfl:ad716=ad718:=(by injection e718)
           replace p718:=eq_true p718
           replace q718:=eq_true q718
           go_wp2
           repeat (go_quiet (fail);try go_wp2)
           go_roundg kj2
           case measure=>have:=HK1.out;have:=HJ2.out;omega
           case rel=>exact⟨(wrap64 (x5_1+1)),zF,H',⟨by have:=HK1.out;have:=HJ2.out;omega⟩,zD⟩
        ·rw[if_neg c8] at H
         exact absurd H (by simp)
       ·rw[if_neg c7] at H
        exact absurd H (by simp)
      ·rw[if_neg c6] at H
       exact absurd H (by simp)
     ·replace c5:=Bool.eq_false_iff.mpr c5
      subst c5
      have H1:(if (l0.length:Int)<(l1.length:Int) then (some (-1)) else (if (l0.length:Int) > (l1.length:Int) then (some 1) else (some 0)))=some r:=by rw[if_neg (show ¬ (false=true) by decide)] at H;exact H
      clear H
      have H:=H1
      clear H1
      by_cases c11:(l0.length:Int)<(l1.length:Int)
      ·rw[if_pos c11] at H
       have c11b0:=decide_eq_true c11
       have c11b1:decide (l0.length<l1.length)=true:=decide_eq_true (Int.ofNat_lt.mp c11)
       clear c11
       obtain rfl:=Option.some.inj H
       go_wp2
       repeat (go_quiet (fail);try go_wp2)
       go_ret
       exact⟨zF,zD⟩
      ·rw[if_neg c11] at H
       have c11b0:=decide_eq_false c11
       have c11b1:decide (l0.length<l1.length)=false:=decide_eq_false (fun h=>c11 (Int.ofNat_lt.mpr h))
       clear c11
       by_cases c12:(l0.length:Int) > (l1.length:Int)
       ·rw[if_pos c12] at H
        have c12b0:decide ((l1.length:Int)<(l0.length:Int))=true:=decide_eq_true c12
        have c12b1:decide (l1.length<l0.length)=true:=decide_eq_true (Int.ofNat_lt.mp c12)
        clear c12
        obtain rfl:=Option.some.inj H
        go_wp2
        repeat (go_quiet (fail);try go_wp2)
        go_ret
        exact⟨zF,zD⟩
       ·rw[if_neg c12] at H
        have c12b0:decide ((l1.length:Int)<(l0.length:Int))=false:=decide_eq_false c12
        have c12b1:decide (l1.length<l0.length)=false:=decide_eq_false (fun h=>c12 (Int.ofNat_lt.mpr h))
        clear c12
        obtain rfl:=Option.some.inj H
        go_wp2
        repeat (go_quiet (fail);try go_wp2)
        go_ret
        exact⟨zF,zD⟩
def yau.l0:Nat→List (List Int)→List Int→Int→Int→Option (Int)
 | 0,_,_,_,_=>none
 | k+1,x0,x1,x5,x6=>if x5<x6 then (if 0≤(wrap64 (Int.tdiv (wrap64 (x5+x6)) 2)) then (if (wrap64 (Int.tdiv (wrap64 (x5+x6)) 2))<(x0.length:Int) then ((yaq.f k (ybb x0 (wrap64 (Int.tdiv (wrap64 (x5+x6)) 2))) x1).bind fun t720=>(if t720<0 then (yau.l0 k x0 x1 (wrap64 ((wrap64 (Int.tdiv (wrap64 (x5+x6)) 2))+1)) x6) else (yau.l0 k x0 x1 x5 (wrap64 (Int.tdiv (wrap64 (x5+x6)) 2))))) else (none)) else (none)) else (some x5)
def yau.f (k:Nat) (l0:List (List Int)) (l1:List Int):Option (Int):=yau.l0 k l0 l1 0 (l0.length:Int)
theorem yau.mono_l:∀ k,(∀ y0 y1 y2 y3,LeO (yau.l0 k y0 y1 y2 y3) (yau.l0 (k+1) y0 y1 y2 y3))
 | 0=>fun _ _ _ _ r h=>by simp [yau.l0] at h
 | k+1=>by
  have ih0:=yau.mono_l k
  ·intro y0 y1 y2 y3
   unfold yau.l0
   repeat' first
   | (with_reducible exact ih0 _ _ _ _)
   | (with_reducible exact yaq.mono _ _ _)
   | (with_reducible exact LeO.refl _)
   | (with_reducible exact LeO.none _)
   | (with_reducible refine LeO.ite ?_ ?_)
   | (with_reducible refine LeO.bind ?_ (fun _=>?_))
theorem yau.mono:∀ a0 a1 k,LeO (yau.f k a0 a1) (yau.f (k+1) a0 a1):=by
 intro a0 a1 k
 have ih0:=yau.mono_l k
 unfold yau.f
 repeat' first
   | (with_reducible exact ih0 _ _ _ _)
   | (with_reducible exact yaq.mono _ _ _)
   | (with_reducible exact LeO.refl _)
   | (with_reducible exact LeO.none _)
   | (with_reducible refine LeO.ite ?_ ?_)
   | (with_reducible refine LeO.bind ?_ (fun _=>?_))
theorem yau.calls (k:Nat) (A0:Option Addr) (c0:Nat) (l0:List (List Int)) (A1:Option Addr) (c1:Nat) (l1:List Int) (r:Int) (w:World) (hr0:Kd.C (Kd.slice 5 (Kd.int .u8)) w A0 l0.length l0) (hc0:l0.length≤c0) (hr1:Kd.C (Kd.int .u8) w A1 l1.length l1) (hc1:l1.length≤c1) (h:yau.f k l0 l1=some r) :
  Calls Tryz.prog 143 #[.slice A0 l0.length c0,.slice A1 l1.length c1] w fun e w'=>e=.returned (.int .i64 r)∧yav w w':=by
 have HR0:=yaa.mk hr0
 have HC0:=yaa.mk hc0
 clear hr0 hc0
 have HR1:=yaa.mk hr1
 have HC1:=yaa.mk hc1
 clear hr1 hc1
 have H:(yau.l0 k l0 l1 0 (l0.length:Int))=some r:=h
 clear h
 have H':=yaa.mk H
 clear H
 go_enter Tryz.func143,Tryz.ntmps143
 go_wp2
 go_loopg [5,6] k (fun kq v5 v6 w'=>∃ (x5_1:Int) (x6_1:Int),v5=.int .i64 x5_1∧v6=.int .i64 x6_1∧yaa (yau.l0 kq l0 l1 x5_1 x6_1=some r)∧yaa (kq≤k)∧yav w w')
 case atStart=>exact⟨(0),((l0.length:Int)),zF,zF,H',⟨Nat.le_refl _⟩,zD⟩
 case round =>
  clear H'
  try clear c1
  try clear p2
  obtain⟨x5_1,x6_1,rfl,rfl,HA,HK1,⟨m1,rfl⟩⟩:=hrel
  cases gk with
  | zero=>exact absurd HA.out (by simp [yau.l0])
  | succ k1 =>
   have H:=HA.out
   clear HA
   simp only[yau.l0] at H
   by_cases c3:x5_1<x6_1
   ·rw[if_pos c3] at H
    have c3b0:=decide_eq_true c3
    clear c3
    obtain⟨ji4,hji4⟩:∃ j_:Int,(wrap64 (Int.tdiv (wrap64 (x5_1+x6_1)) 2))=j_:=⟨_,rfl⟩
    replace H:(if 0≤(ji4) then (if (ji4)<(l0.length:Int) then ((yaq.f k1 (ybb l0 (ji4)) l1).bind fun t720=>(if t720<0 then (yau.l0 k1 l0 l1 (wrap64 ((ji4)+1)) x6_1) else (yau.l0 k1 l0 l1 x5_1 ji4))) else (none)) else (none))=some r:=by first|(rw[hji4] at H;exact H)|(simp only[hji4] at H ⊢;exact H)
    have hji4w:(IntKind.i64.wrap (Int.tdiv (wrap64 (x5_1+x6_1)) 2))=ji4:=(ya4 _).trans hji4
    by_cases c5:0≤(ji4)
    ·rw[if_pos c5] at H
     have c5b0:=decide_eq_true c5
     clear c5
     by_cases c6:(ji4)<(l0.length:Int)
     ·rw[if_pos c6] at H
      have c6b0:=decide_eq_true c6
      clear c6
      replace H:=Option.bind_eq_some_iff.mp H
      obtain⟨t720,A70,H⟩:=H
      try dsimp only at H
      have A7:=yaa.mk A70
      clear A70
      by_cases c8:t720<0
      ·rw[if_pos c8] at H
       have c8b0:=decide_eq_true c8
       clear c8
       have H':=yaa.mk H
       clear H
       have p719:0≤((ji4):Int):=of_decide_eq_true zA
       have q719:(ji4)<(l0.length:Int):=of_decide_eq_true zA
       obtain⟨ad719,A719_0,c719_0,e719,hx719_0,hl719_0,hi719_0⟩:=yd8 HR0.out (ji4) p719 q719
       cases e719
       have HR719_0:=yaa.mk hi719_0
       have HC719_0:=yaa.mk hl719_0
       clear hi719_0 hl719_0
       replace p719:=eq_true p719
       replace q719:=eq_true q719
       go_wp2_with (first|((with_reducible refine yah (f:=118) rfl ?_);refine ya6 (some 22) rfl rfl Tryz.func118 (by kernel_rfl) rfl #[.slice A719_0 (ybb l0 (ji4)).length c719_0,.slice A1 l1.length c1] rfl (by (try simp only[List.map_toArray,List.map_cons,List.map_nil]);first|done|(simp only[hji4];rfl)|rfl|(simp only[List.length_drop,List.length_take];rfl)) ?_;(with_reducible refine(yaq.calls k1 _ _ (ybb l0 (ji4)) _ _ l1 t720 _ ?side1 ?side2 ?side3 ?side4 A7.out).mono ?_);(case side1=>exact zC HR719_0.out);(case side2=>exact HC719_0.out);(case side3=>exact zC HR1.out);(case side4=>exact HC1.out);rintro e w' ⟨rfl,⟨nd,rfl⟩⟩;refine⟨_,rfl,?_⟩))
       go_roundg k1
       case measure=>have:=HK1.out;omega
       case rel=>exact⟨(wrap64 ((ji4)+1)),(x6_1),(by first|rfl|(simp;done)|(simp only[← hji4] <;> (first|rfl|simp))|(simp [*];done)),zF,H',⟨by have:=HK1.out;omega⟩,zD⟩
      ·rw[if_neg c8] at H
       have c8b0:=decide_eq_false c8
       clear c8
       have H':=yaa.mk H
       clear H
       have p719:0≤((ji4):Int):=of_decide_eq_true zA
       have q719:(ji4)<(l0.length:Int):=of_decide_eq_true zA
       obtain⟨ad719,A719_0,c719_0,e719,hx719_0,hl719_0,hi719_0⟩:=yd8 HR0.out (ji4) p719 q719
       cases e719
       have HR719_0:=yaa.mk hi719_0
       have HC719_0:=yaa.mk hl719_0
       clear hi719_0 hl719_0
       replace p719:=eq_true p719
       replace q719:=eq_true q719
       go_wp2_with (first|((with_reducible refine yah (f:=118) rfl ?_);refine ya6 (some 22) rfl rfl Tryz.func118 (by kernel_rfl) rfl #[.slice A719_0 (ybb l0 (ji4)).length c719_0,.slice A1 l1.length c1] rfl (by (try simp only[List.map_toArray,List.map_cons,List.map_nil]);first|done|(simp only[hji4];rfl)|rfl|(simp only[List.length_drop,List.length_take];rfl)) ?_;(with_reducible refine(yaq.calls k1 _ _ (ybb l0 (ji4)) _ _ l1 t720 _ ?side1 ?side2 ?side3 ?side4 A7.out).mono ?_);(case side1=>exact zC HR719_0.out);(case side2=>exact HC719_0.out);(case side3=>exact zC HR1.out);(case side4=>exact HC1.out);rintro e w' ⟨rfl,⟨nd,rfl⟩⟩;refine⟨_,rfl,?_⟩))
       go_roundg k1
       case measure=>have:=HK1.out;omega
       case rel=>exact⟨(x5_1),(ji4),zF,(by first|rfl|(simp;done)|(simp only[← hji4] <;> (first|rfl|simp))|(simp [*];done)),H',⟨by have:=HK1.out;omega⟩,zD⟩
     ·rw[if_neg c6] at H
      exact absurd H (by simp)
    ·rw[if_neg c5] at H
     exact absurd H (by simp)
   ·rw[if_neg c3] at H
    have c3b0:=decide_eq_false c3
    clear c3
    obtain rfl:=Option.some.inj H
    go_wp2
    go_ret
    exact⟨zF,zD⟩
end Go.Proofs.YteeikgjjgfdjgaaGreat.PK
end
