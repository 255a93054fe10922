/-
  Parts of the proof: E25.
-/
import Derived.Test.YteeikgjjgfdjgaaGreatV8
import Derived.Test.YteeikgjjgfdjgaaGreatV16
set_option maxHeartbeats 8000000
set_option maxRecDepth 100000
section
namespace Go.Proofs.YteeikgjjgfdjgaaGreat.PK
open Go.RowKit YteeikgjjgfdjgaaGreatW.PrintWords YteeikgjjgfdjgaaGreatW.PrintLast YteeikgjjgfdjgaaGreatW.PrintMore
attribute [local go_sem] yce ycf ycu ycv yb8 yb7 ycm yco
set_option linter.unusedVariables false
set_option linter.unusedSimpArgs false
def ybe.l0:Nat→List Int→Int→Int→List (List Int)→Int→Option ((List (List Int))×Int)
 | 0,_,_,_,_,_=>none
 | k+1,x0,x4,x5,x7,x8=>if x8<x4 then ((yeb.f k x0 x5).bind fun bt760=>(if bt760.2.2=0 then (if x8 > 0 then (if 0≤(IntKind.u64.wrap (x8-1)) then (if (IntKind.u64.wrap (x8-1))<(x7.length:Int) then ((yan.f k bt760.1 (ydn x7 (IntKind.u64.wrap (x8-1)))).bind fun t766=>(if t766≤0 then (some (([]:List (List Int)),5)) else (if x7.length<5864062014805 then (ybe.l0 k x0 x4 bt760.2.1 (x7++[bt760.1]) (IntKind.u64.wrap (x8+1))) else (none)))) else (none)) else (none)) else (if x7.length<5864062014805 then (ybe.l0 k x0 x4 bt760.2.1 (x7++[bt760.1]) (IntKind.u64.wrap (x8+1))) else (none))) else (some (([]:List (List Int)),bt760.2.2)))) else ((yac.f k x0 x5).bind fun bt773=>(if bt773.2.2=0 then (if bt773.1 > 4096 then (some (([]:List (List Int)),4)) else ((yag.f k x0 bt773.2.1 (x0.length:Int)).bind fun t776=>((ydf.f k (x7.length:Int)).bind fun t779=>((yah.f k t776 t779 (wrap64 (bt773.1))).bind fun bt780=>(if bt780.2=0 then ((yao.f k x7 bt780.1).bind fun bt784=>(some (bt784.1,bt784.2))) else (some (([]:List (List Int)),bt780.2))))))) else (some (([]:List (List Int)),bt773.2.2))))
def ybe.f (k:Nat) (l0:List Int):Option ((List (List Int))×Int):=(yac.f k l0 0).bind fun bt754=>(if bt754.2.2=0 then (if bt754.1 > 4096 then (some (([]:List (List Int)),4)) else (ybe.l0 k l0 bt754.1 bt754.2.1 (([]:List (List Int))) 0)) else (some (([]:List (List Int)),bt754.2.2)))
theorem ybe.calls (k:Nat) (A0:Option Addr) (c0:Nat) (l0:List Int) (r1:List (List Int)) (r2:Int) (w:World) (hr0:Kd.C (Kd.int .u8) w A0 l0.length l0) (hc0:l0.length≤c0) (h:ybe.f k l0=some (r1,r2)) :
  Calls Tryz.prog 78 #[.slice A0 l0.length c0] w fun e w'=>∃ v0_:Value,e=.returned (.tuple #[v0_,.int .i64 r2])∧Kd.S (Kd.slice 5 (Kd.int .u8)) 25 w' w.heap.size (fun _=>True) v0_ r1∧Below w.heap.size w w':=by
 have HR0:=yaa.mk hr0
 have HC0:=yaa.mk hc0
 clear hr0 hc0
 have HB:=yaa.mk (Below.refl w.heap.size w)
 have H:((yac.f k l0 0).bind fun bt754=>(if bt754.2.2=0 then (if bt754.1 > 4096 then (some (([]:List (List Int)),4)) else (ybe.l0 k l0 bt754.1 bt754.2.1 (([]:List (List Int))) 0)) else (some (([]:List (List Int)),bt754.2.2))))=some (r1,r2):=h
 clear h
 replace H:=Option.bind_eq_some_iff.mp H
 obtain⟨⟨t754,t755,t756⟩,A20,H⟩:=H
 try dsimp only at H
 have A2:=yaa.mk A20
 clear A20
 by_cases c3:t756=0
 ·rw[if_pos c3] at H
  have c3b0:(t756 == 0)=true:=beq_iff_eq.mpr c3
  have c3b1:(t756 != 0)=false:=bne_eq_false_iff_eq.mpr c3
  clear c3
  by_cases c4:t754 > 4096
  ·rw[if_pos c4] at H
   have c4b0:decide (4096<t754)=true:=decide_eq_true c4
   clear c4
   simp only[Option.some.injEq,Prod.mk.injEq] at H
   obtain⟨rfl,rfl⟩:=H
   go_enter Tryz.func78,Tryz.ntmps78
   go_wp2_with (first|((with_reducible refine yad (f:=44) rfl ?_);refine yak (some 19) rfl rfl Tryz.func44 (by kernel_rfl) rfl #[.slice A0 l0.length c0,.int .i64 0] rfl zE ?_;(with_reducible refine(yac.calls k _ _ l0 0 t754 t755 t756 _ ?side1 ?side2 A2.out).mono ?_);(case side1=>exact zC HR0.out);(case side2=>exact HC0.out);rintro e w' ⟨rfl,⟨nd,rfl⟩⟩;refine⟨_,rfl,?_⟩))
   go_ret2
   exact⟨_,zG,by first|exact Kd.S_nil _ _ _ _ _|exact Kd.N_nil _ _ _ _ _|exact Kd.V_nil _ _ _ _ _|exact Kd.Q_nil _ _ _ _ _|exact Kd.R_nil _ _ _ _ _,zB⟩
  ·rw[if_neg c4] at H
   have c4b0:decide (4096<t754)=false:=decide_eq_false c4
   clear c4
   obtain⟨y757,hy757⟩:∃ y_:List (List Int),y_=(([]:List (List Int))):=⟨_,rfl⟩
   replace H:(ybe.l0 k l0 t754 t755 y757 0)=some (r1,r2):=by first|(rw[hy757];with_reducible exact H)|(have H2_:=(Option.bind_some _ _).symm.trans H;rw[hy757];with_reducible exact H2_)|(have H2_:=(Option.bind_some _ _).symm.trans H;with_reducible exact H2_)|with_reducible exact H|(rw[hy757];exact H)|exact H
   have Ny757:=yaa.mk hy757
   clear hy757
   have H':=yaa.mk H
   clear H
   go_enter Tryz.func78,Tryz.ntmps78
   go_wp2_with (first|((with_reducible refine yad (f:=44) rfl ?_);refine yak (some 19) rfl rfl Tryz.func44 (by kernel_rfl) rfl #[.slice A0 l0.length c0,.int .i64 0] rfl zE ?_;(with_reducible refine(yac.calls k _ _ l0 0 t754 t755 t756 _ ?side1 ?side2 A2.out).mono ?_);(case side1=>exact zC HR0.out);(case side2=>exact HC0.out);rintro e w' ⟨rfl,⟨nd,rfl⟩⟩;refine⟨_,rfl,?_⟩)|((with_reducible refine yb1 (N:=28) rfl ?_);refine Kd.S_lit (Kd.slice 5 (Kd.int .u8)) _ 25 ?hg (N:=28) ?hd (xs:=([]:List (List Int))) (inner:=[]) (ok:=fun _=>True) (okp:=fun _=>True) ?hr ?hp (fun _ hk=>hk) trivial (Below.refl _ _) (Nat.le_refl _) (by simp) ?_;(case hd=>rfl);(case hg=>rfl);(case hr=>first|(go_simp;done)|(go_simp;rfl));(case hp=>exact(Reps.none _ _));intro v758 w5 ho6 hb hg_ hnew_;clear hg_ hnew_;(first|rw[← Ny757.out] at ho6|(simp only[Int.reduceToNat] at ho6;rw[← Ny757.out] at ho6));have n0_:=yaa.mk (Kd.S_lower ho6 (yaf zB));have n1_:=yaa.mk (yai zB hb);clear HB;have HO759:=n0_;have HB:=n1_;clear n0_ n1_;clear hb ho6))
   go_loopg [5,7,8] k (fun kq v5 v7 v8 w'=>∃ (x5_1:Int) (x7_1:List (List Int)) (x8_1:Int),v5=.int .i64 x5_1∧v8=.int .u64 x8_1∧yaa (ybe.l0 kq l0 t754 x5_1 x7_1 x8_1=some (r1,r2))∧yaa (kq≤k)∧yaa (Kd.S (Kd.slice 5 (Kd.int .u8)) 25 w' w.heap.size (fun _=>True) v7 x7_1)∧yaa (Below w.heap.size w w'))
   case atStart=>exact⟨(t755),(y757),(0),zF,zF,H',⟨Nat.le_refl _⟩,⟨zS HO759.out⟩,⟨zB⟩⟩
   case round =>
    clear H'
    try clear p2
    try clear c3
    try clear c3b0
    try clear c3b1
    try clear c4
    try clear c4b0
    obtain⟨x5_1,x7_1,x8_1,rfl,rfl,HA,HK1,HO_7,HB⟩:=hrel
    cases gk with
    | zero=>exact absurd HA.out (by simp [ybe.l0])
    | succ k1 =>
     have H:=HA.out
     clear HA
     simp only[ybe.l0] at H
     by_cases c7:x8_1<t754
     ·rw[if_pos c7] at H
      have c7b0:=decide_eq_true c7
      clear c7
      replace H:=Option.bind_eq_some_iff.mp H
      obtain⟨⟨t760,t761,t762⟩,A80,H⟩:=H
      try dsimp only at H
      have A8:=yaa.mk A80
      clear A80
      by_cases c9:t762=0
      ·rw[if_pos c9] at H
       have c9b0:(t762 == 0)=true:=beq_iff_eq.mpr c9
       have c9b1:(t762 != 0)=false:=bne_eq_false_iff_eq.mpr c9
       clear c9
       by_cases c10:x8_1 > 0
       ·rw[if_pos c10] at H
        have c10b0:decide (0<x8_1)=true:=decide_eq_true c10
        clear c10
        obtain⟨ji11,hji11⟩:∃ j_:Int,(IntKind.u64.wrap (x8_1-1))=j_:=⟨_,rfl⟩
        replace H:(if 0≤(ji11) then (if (ji11)<(x7_1.length:Int) then ((yan.f k1 t760 (ydn x7_1 (ji11))).bind fun t766=>(if t766≤0 then (some (([]:List (List Int)),5)) else (if x7_1.length<5864062014805 then (ybe.l0 k1 l0 t754 t761 (x7_1++[t760]) (IntKind.u64.wrap (x8_1+1))) else (none)))) else (none)) else (none))=some (r1,r2):=by first|(rw[hji11] at H;exact H)|(simp only[hji11] at H ⊢;exact H)
        (try rw[hji11] at A8)
        by_cases c12:0≤(ji11)
        ·rw[if_pos c12] at H
         have c12b0:=decide_eq_true c12
         clear c12
         by_cases c13:(ji11)<(x7_1.length:Int)
         ·rw[if_pos c13] at H
          have c13b0:=decide_eq_true c13
          clear c13
          replace H:=Option.bind_eq_some_iff.mp H
          obtain⟨t766,A140,H⟩:=H
          try dsimp only at H
          have A14:=yaa.mk A140
          clear A140
          by_cases c15:t766≤0
          ·rw[if_pos c15] at H
           have c15b0:=decide_eq_true c15
           clear c15
           simp only[Option.some.injEq,Prod.mk.injEq] at H
           obtain⟨rfl,rfl⟩:=H
           go_wp2_with (first|((with_reducible refine yad (f:=117) rfl ?_);refine yak (some 37) rfl rfl Tryz.func117 (by kernel_rfl) rfl #[.slice A0 l0.length c0,.int .i64 x5_1] rfl zE ?_;(with_reducible refine(yeb.calls k1 _ _ l0 x5_1 t760 t761 t762 _ ?side1 ?side2 A8.out).mono ?_);(case side1=>exact zC (Kd.C_below HR0.out HB.out));(case side2=>exact HC0.out);rintro e w16 ⟨v763,rfl,ho0,hb⟩;refine⟨_,rfl,?_⟩;have n0_:=yaa.mk (Kd.S_elder' (zS HO_7.out) (Kd.R_base ho0) hb);have n1_:=yaa.mk (Kd.R_lower ho0 (yaf zB));have n2_:=yaa.mk (yai zB hb);clear HO_7;clear HB;have HO_7:=n0_;have HO764:=n1_;have HB:=n2_;clear n0_ n1_ n2_;(try clear hb);(try clear hb2);(try clear hk);(try clear hi);(try clear ho0);obtain⟨Ao17,co17,eo17⟩:=Kd.S_slice HO_7.out;subst eo17;have p765:0≤((ji11):Int):=of_decide_eq_true zA;have q765:(ji11)<(x7_1.length:Int):=of_decide_eq_true zA;obtain⟨ad765,A765_0,c765_0,e765,hx765_0,hl765_0,hi765_0⟩:=yhl (Kd.S_reads' HO_7.out).2.2 (ji11) p765 q765;cases e765;obtain⟨ce765,hce765,hMe765,hcc765⟩:=Kd.S_get HO_7.out [] (ji11) p765 (by first|exact q765|exact of_decide_eq_true zA|(have e_:=(Kd.S_reads' HO_7.out).1;omega));obtain⟨ve765_0,rfl,ge765_0⟩:=hMe765;have hv765_0:=hcc765 0 _ rfl;rw[Nat.add_zero,show((Kd.slice 5 (Kd.int .u8))).sz=1 from rfl,Nat.mul_one] at hv765_0;replace hv765_0:=Option.some.inj (hv765_0.symm.trans hx765_0);rw[hv765_0] at ge765_0;have HL765_0:=yaa.mk (show Kd.R (Kd.int .u8) 5 _ _ _ _ (ydn x7_1 (ji11)) from ge765_0);clear hv765_0 ge765_0;clear hcc765 hce765;have HR765_0:=yaa.mk hi765_0;have HC765_0:=yaa.mk hl765_0;clear hi765_0 hl765_0;replace p765:=eq_true p765;replace q765:=eq_true q765;obtain⟨Ao18,co18,eo18⟩:=Kd.R_slice HO764.out;subst eo18)|(go_at_call 118;(with_reducible refine(yan.calls k1 _ _ t760 _ _ (ydn x7_1 (ji11)) t766 _ ?side1 ?side2 ?side3 ?side4 A14.out).mono ?_);(case side1=>exact zC (Kd.R_reads' HO764.out).2.2);(case side2=>exact(Kd.R_reads' HO764.out).2.1);(case side3=>repeat (first|exact(by repeat (first|(with_reducible exact HR765_0.out)|(with_reducible refine Kd.C_alloc ?_ _)|(with_reducible refine Kd.C_drewN ?_ _)|(with_reducible refine Kd.C_drew ?_)|exact HR765_0.out))|(with_reducible refine Kd.C_alloc ?_ _)|(with_reducible refine Kd.C_drewN ?_ _)|(with_reducible refine Kd.C_drew ?_)));(case side4=>exact HC765_0.out);rintro e w' ⟨rfl,⟨nd,rfl⟩⟩))
           go_ret2
           exact⟨_,by first|rfl|(simp [yf6,ygb] <;> rfl)|(simp only[← hji11];first|rfl|(simp [yf6,ygb] <;> rfl))|(simp [*,yf6,ygb] <;> rfl),by first|exact Kd.S_nil _ _ _ _ _|exact Kd.N_nil _ _ _ _ _|exact Kd.V_nil _ _ _ _ _|exact Kd.Q_nil _ _ _ _ _|exact Kd.R_nil _ _ _ _ _,zB⟩
          ·rw[if_neg c15] at H
           have c15b0:=decide_eq_false c15
           clear c15
           by_cases c19:x7_1.length<5864062014805
           ·rw[if_pos c19] at H
            have LMc19:=yaa.mk c19
            clear c19
            obtain⟨y767,hy767⟩:∃ y_:List (List Int),y_=(x7_1++[t760]):=⟨_,rfl⟩
            replace H:(ybe.l0 k1 l0 t754 t761 y767 (IntKind.u64.wrap (x8_1+1)))=some (r1,r2):=by first|(rw[hy767];with_reducible exact H)|(have H2_:=(Option.bind_some _ _).symm.trans H;rw[hy767];with_reducible exact H2_)|(have H2_:=(Option.bind_some _ _).symm.trans H;with_reducible exact H2_)|with_reducible exact H|(rw[hy767];exact H)|exact H
            have Ny767:=yaa.mk hy767
            clear hy767
            have H':=yaa.mk H
            clear H
            go_wp2_with (first|((with_reducible refine yad (f:=117) rfl ?_);refine yak (some 37) rfl rfl Tryz.func117 (by kernel_rfl) rfl #[.slice A0 l0.length c0,.int .i64 x5_1] rfl zE ?_;(with_reducible refine(yeb.calls k1 _ _ l0 x5_1 t760 t761 t762 _ ?side1 ?side2 A8.out).mono ?_);(case side1=>exact zC (Kd.C_below HR0.out HB.out));(case side2=>exact HC0.out);rintro e w20 ⟨v763,rfl,ho0,hb⟩;refine⟨_,rfl,?_⟩;have n0_:=yaa.mk (Kd.S_elder' (zS HO_7.out) (Kd.R_base ho0) hb);have n1_:=yaa.mk (Kd.R_lower ho0 (yaf zB));have n2_:=yaa.mk (yai zB hb);clear HO_7;clear HB;have HO_7:=n0_;have HO764:=n1_;have HB:=n2_;clear n0_ n1_ n2_;(try clear hb);(try clear hb2);(try clear hk);(try clear hi);(try clear ho0);obtain⟨Ao21,co21,eo21⟩:=Kd.S_slice HO_7.out;subst eo21;have p765:0≤((ji11):Int):=of_decide_eq_true zA;have q765:(ji11)<(x7_1.length:Int):=of_decide_eq_true zA;obtain⟨ad765,A765_0,c765_0,e765,hx765_0,hl765_0,hi765_0⟩:=yhl (Kd.S_reads' HO_7.out).2.2 (ji11) p765 q765;cases e765;obtain⟨ce765,hce765,hMe765,hcc765⟩:=Kd.S_get HO_7.out [] (ji11) p765 (by first|exact q765|exact of_decide_eq_true zA|(have e_:=(Kd.S_reads' HO_7.out).1;omega));obtain⟨ve765_0,rfl,ge765_0⟩:=hMe765;have hv765_0:=hcc765 0 _ rfl;rw[Nat.add_zero,show((Kd.slice 5 (Kd.int .u8))).sz=1 from rfl,Nat.mul_one] at hv765_0;replace hv765_0:=Option.some.inj (hv765_0.symm.trans hx765_0);rw[hv765_0] at ge765_0;have HL765_0:=yaa.mk (show Kd.R (Kd.int .u8) 5 _ _ _ _ (ydn x7_1 (ji11)) from ge765_0);clear hv765_0 ge765_0;clear hcc765 hce765;have HR765_0:=yaa.mk hi765_0;have HC765_0:=yaa.mk hl765_0;clear hi765_0 hl765_0;replace p765:=eq_true p765;replace q765:=eq_true q765;obtain⟨Ao22,co22,eo22⟩:=Kd.R_slice HO764.out;subst eo22)|(go_at_call 118;(with_reducible refine(yan.calls k1 _ _ t760 _ _ (ydn x7_1 (ji11)) t766 _ ?side1 ?side2 ?side3 ?side4 A14.out).mono ?_);(case side1=>exact zC (Kd.R_reads' HO764.out).2.2);(case side2=>exact(Kd.R_reads' HO764.out).2.1);(case side3=>repeat (first|exact(by repeat (first|(with_reducible exact HR765_0.out)|(with_reducible refine Kd.C_alloc ?_ _)|(with_reducible refine Kd.C_drewN ?_ _)|(with_reducible refine Kd.C_drew ?_)|exact HR765_0.out))|(with_reducible refine Kd.C_alloc ?_ _)|(with_reducible refine Kd.C_drewN ?_ _)|(with_reducible refine Kd.C_drew ?_)));(case side4=>exact HC765_0.out);rintro e w' ⟨rfl,⟨nd,rfl⟩⟩)|((with_reducible refine ybm (b:=.append) (xs:=#[.tmp 56,.tmp 58]) rfl ?_);at_builtin;refine Kd.S_append (Kd.slice 5 (Kd.int .u8)) (w0:=w) w.heap.size rfl (.tmp 56) (.tmp 58) 46 25 (.slice none 0 0) 24 rfl Tryz.underlying46 ygm rfl (by decide) (by omega) (.slice (some ad765) x7_1.length co21) x7_1 t760 [.slice Ao22 t760.length co22] (fun _=>True) (fun k_=>some k_=(.slice Ao22 t760.length co22:Value).ownBlock) rfl rfl ?aP (fun k_ hk_=>((Kd.R_mono (ok':=fun k_=>((fun _=>True)) k_∧some k_≠(.slice (some ad765) x7_1.length co21:Value).ownBlock) (Kd.R_apart' (HO764.out) (Kd.S_typed HO_7.out) (by decide)) (fun k_ hk=>⟨trivial,hk.2⟩))).1 k_ hk_.symm) ?aF ?aO ?aB ?aS ?aL ?_;(case aP=>exact Kd.M_row (Kd.R_mono (Kd.R_tight rfl (Kd.R_mono (ok':=fun k_=>((fun _=>True)) k_∧some k_≠(.slice (some ad765) x7_1.length co21:Value).ownBlock) (Kd.R_apart' (HO764.out) (Kd.S_typed HO_7.out) (by decide)) (fun k_ hk=>⟨trivial,hk.2⟩))) (fun _ h_=>h_)));(case aB=>exact zB);(case aF=>exact fun _ _=>trivial);(case aO=>exact(by (with_reducible repeat (first|apply Kd.S_alloc|apply Kd.S_drewN|apply Kd.S_drew));exact Kd.S_mono HO_7.out (fun k_ hk=>⟨trivial,fun e_=>hk.2 e_⟩)));(case aS=>exact(yaf zB));(case aL=>have:=LMc19.out;omega);intro v768 w23 ho hb hg hat;rw[← Ny767.out] at ho;have n0_:=yaa.mk (Kd.R_after (ok:=(fun k_=>some k_≠(.slice Ao22 t760.length co22:Value).ownBlock)) (by (with_reducible repeat (first|apply Kd.R_alloc|apply Kd.R_drewN|apply Kd.R_drew));exact Kd.R_mono HL765_0.out (fun _ hk=>⟨hk.1.2,hk.2⟩)) hg hat);have n1_:=yaa.mk (hb);have n2_:=yaa.mk (ho);clear HL765_0;clear HB;clear HO_7;clear HO764;have HL765_0:=n0_;have HB:=n1_;have HO769:=n2_;clear n0_ n1_ n2_;clear ho hb hg hat))
            go_roundg k1
            case measure=>have:=HK1.out;omega
            case rel=>exact⟨(t761),(y767),(IntKind.u64.wrap (x8_1+1)),zF,zF,H',⟨by have:=HK1.out;omega⟩,⟨zS HO769.out⟩,⟨zB⟩⟩
           ·rw[if_neg c19] at H
            exact absurd H (by simp)
         ·rw[if_neg c13] at H
          exact absurd H (by simp)
        ·rw[if_neg c12] at H
         exact absurd H (by simp)
       ·rw[if_neg c10] at H
        have c10b0:decide (0<x8_1)=false:=decide_eq_false c10
        clear c10
        by_cases c24:x7_1.length<5864062014805
        ·rw[if_pos c24] at H
         have LMc24:=yaa.mk c24
         clear c24
         obtain⟨y770,hy770⟩:∃ y_:List (List Int),y_=(x7_1++[t760]):=⟨_,rfl⟩
         replace H:(ybe.l0 k1 l0 t754 t761 y770 (IntKind.u64.wrap (x8_1+1)))=some (r1,r2):=by first|(rw[hy770];with_reducible exact H)|(have H2_:=(Option.bind_some _ _).symm.trans H;rw[hy770];with_reducible exact H2_)|(have H2_:=(Option.bind_some _ _).symm.trans H;with_reducible exact H2_)|with_reducible exact H|(rw[hy770];exact H)|exact H
         have Ny770:=yaa.mk hy770
         clear hy770
         have H':=yaa.mk H
         clear H
         go_wp2_with (first|((with_reducible refine yad (f:=117) rfl ?_);refine yak (some 37) rfl rfl Tryz.func117 (by kernel_rfl) rfl #[.slice A0 l0.length c0,.int .i64 x5_1] rfl zE ?_;(with_reducible refine(yeb.calls k1 _ _ l0 x5_1 t760 t761 t762 _ ?side1 ?side2 A8.out).mono ?_);(case side1=>exact zC (Kd.C_below HR0.out HB.out));(case side2=>exact HC0.out);rintro e w25 ⟨v763,rfl,ho0,hb⟩;refine⟨_,rfl,?_⟩;have n0_:=yaa.mk (Kd.S_elder' (zS HO_7.out) (Kd.R_base ho0) hb);have n1_:=yaa.mk (Kd.R_lower ho0 (yaf zB));have n2_:=yaa.mk (yai zB hb);clear HO_7;clear HB;have HO_7:=n0_;have HO764:=n1_;have HB:=n2_;clear n0_ n1_ n2_;(try clear hb);(try clear hb2);(try clear hk);(try clear hi);(try clear ho0);obtain⟨Ao27,co27,eo27⟩:=Kd.R_slice HO764.out;subst eo27)|((with_reducible refine ybm (b:=.append) (xs:=#[.tmp 56,.tmp 58]) rfl ?_);at_builtin;refine Kd.S_append (Kd.slice 5 (Kd.int .u8)) (w0:=w) w.heap.size rfl (.tmp 56) (.tmp 58) 46 25 (.slice none 0 0) 24 rfl Tryz.underlying46 ygm rfl (by decide) (by omega) u7 x7_1 t760 [.slice Ao27 t760.length co27] (fun _=>True) (fun k_=>some k_=(.slice Ao27 t760.length co27:Value).ownBlock) rfl rfl ?aP (fun k_ hk_=>((Kd.R_mono (ok':=fun k_=>((fun _=>True)) k_∧some k_≠(u7:Value).ownBlock) (Kd.R_apart' (HO764.out) (Kd.S_typed HO_7.out) (by decide)) (fun k_ hk=>⟨trivial,hk.2⟩))).1 k_ hk_.symm) ?aF ?aO ?aB ?aS ?aL ?_;(case aP=>exact Kd.M_row (Kd.R_mono (Kd.R_tight rfl (Kd.R_mono (ok':=fun k_=>((fun _=>True)) k_∧some k_≠(u7:Value).ownBlock) (Kd.R_apart' (HO764.out) (Kd.S_typed HO_7.out) (by decide)) (fun k_ hk=>⟨trivial,hk.2⟩))) (fun _ h_=>h_)));(case aB=>exact zB);(case aF=>exact fun _ _=>trivial);(case aO=>exact(by (with_reducible repeat (first|apply Kd.S_alloc|apply Kd.S_drewN|apply Kd.S_drew));exact Kd.S_mono HO_7.out (fun k_ hk=>⟨trivial,fun e_=>hk.2 e_⟩)));(case aS=>exact(yaf zB));(case aL=>have:=LMc24.out;omega);intro v771 w26 ho hb hg hat;rw[← Ny770.out] at ho;have n0_:=yaa.mk (hb);have n1_:=yaa.mk (ho);clear HB;clear HO_7;clear HO764;have HB:=n0_;have HO772:=n1_;clear n0_ n1_;clear ho hb hg hat))
         go_roundg k1
         case measure=>have:=HK1.out;omega
         case rel=>exact⟨(t761),(y770),(IntKind.u64.wrap (x8_1+1)),zF,zF,H',⟨by have:=HK1.out;omega⟩,⟨zS HO772.out⟩,⟨zB⟩⟩
        ·rw[if_neg c24] at H
         exact absurd H (by simp)
      ·rw[if_neg c9] at H
       have c9b0:(t762 == 0)=false:=beq_eq_false_iff_ne.mpr c9
       have c9b1:(t762 != 0)=true:=bne_iff_ne.mpr c9
       simp only[Option.some.injEq,Prod.mk.injEq] at H
       obtain⟨rfl,rfl⟩:=H
       go_wp2_with (first|((with_reducible refine yad (f:=117) rfl ?_);refine yak (some 37) rfl rfl Tryz.func117 (by kernel_rfl) rfl #[.slice A0 l0.length c0,.int .i64 x5_1] rfl zE ?_;(with_reducible refine(yeb.calls k1 _ _ l0 x5_1 t760 t761 t762 _ ?side1 ?side2 A8.out).mono ?_);(case side1=>exact zC (Kd.C_below HR0.out HB.out));(case side2=>exact HC0.out);rintro e w28 ⟨v763,rfl,ho0,hb⟩;refine⟨_,rfl,?_⟩;have n0_:=yaa.mk (Kd.S_elder' (zS HO_7.out) (Kd.R_base ho0) hb);have n1_:=yaa.mk (Kd.R_lower ho0 (yaf zB));have n2_:=yaa.mk (yai zB hb);clear HO_7;clear HB;have HO_7:=n0_;have HO764:=n1_;have HB:=n2_;clear n0_ n1_ n2_;(try clear hb);(try clear hb2);(try clear hk);(try clear hi);(try clear ho0)))
       go_ret2
       exact⟨_,zG,by first|exact Kd.S_nil _ _ _ _ _|exact Kd.N_nil _ _ _ _ _|exact Kd.V_nil _ _ _ _ _|exact Kd.Q_nil _ _ _ _ _|exact Kd.R_nil _ _ _ _ _,zB⟩
     ·rw[if_neg c7] at H
      have c7b0:=decide_eq_false c7
      clear c7
      replace H:=Option.bind_eq_some_iff.mp H
      obtain⟨⟨t773,t774,t775⟩,A290,H⟩:=H
      try dsimp only at H
      have A29:=yaa.mk A290
      clear A290
      by_cases c30:t775=0
      ·rw[if_pos c30] at H
       have c30b0:(t775 == 0)=true:=beq_iff_eq.mpr c30
       have c30b1:(t775 != 0)=false:=bne_eq_false_iff_eq.mpr c30
       clear c30
       by_cases c31:t773 > 4096
       ·rw[if_pos c31] at H
        have c31b0:decide (4096<t773)=true:=decide_eq_true c31
        clear c31
        simp only[Option.some.injEq,Prod.mk.injEq] at H
        obtain⟨rfl,rfl⟩:=H
        go_wp2_with (first|((with_reducible refine yad (f:=44) rfl ?_);refine yak (some 64) rfl rfl Tryz.func44 (by kernel_rfl) rfl #[.slice A0 l0.length c0,.int .i64 x5_1] rfl zE ?_;(with_reducible refine(yac.calls k1 _ _ l0 x5_1 t773 t774 t775 _ ?side1 ?side2 A29.out).mono ?_);(case side1=>exact zC (Kd.C_below HR0.out HB.out));(case side2=>exact HC0.out);rintro e w' ⟨rfl,⟨nd,rfl⟩⟩;refine⟨_,rfl,?_⟩))
        go_ret2
        exact⟨_,zG,by first|exact Kd.S_nil _ _ _ _ _|exact Kd.N_nil _ _ _ _ _|exact Kd.V_nil _ _ _ _ _|exact Kd.Q_nil _ _ _ _ _|exact Kd.R_nil _ _ _ _ _,zB⟩
       ·rw[if_neg c31] at H
        have c31b0:decide (4096<t773)=false:=decide_eq_false c31
        clear c31
        replace H:=Option.bind_eq_some_iff.mp H
        obtain⟨t776,A320,H⟩:=H
        try dsimp only at H
        have A32:=yaa.mk A320
        clear A320
        replace H:=Option.bind_eq_some_iff.mp H
        obtain⟨t779,A330,H⟩:=H
        try dsimp only at H
        have A33:=yaa.mk A330
        clear A330
        replace H:=Option.bind_eq_some_iff.mp H
        obtain⟨⟨t780,t781⟩,A340,H⟩:=H
        try dsimp only at H
        have A34:=yaa.mk A340
        clear A340
        by_cases c35:t781=0
        ·rw[if_pos c35] at H
         have c35b0:(t781 == 0)=true:=beq_iff_eq.mpr c35
         have c35b1:(t781 != 0)=false:=bne_eq_false_iff_eq.mpr c35
         clear c35
         replace H:=Option.bind_eq_some_iff.mp H
         obtain⟨⟨t784,t785⟩,A360,H⟩:=H
         try dsimp only at H
         have A36:=yaa.mk A360
         clear A360
         simp only[Option.some.injEq,Prod.mk.injEq] at H
         obtain⟨rfl,rfl⟩:=H
         go_wp2_with (first|((with_reducible refine yad (f:=44) rfl ?_);refine yak (some 64) rfl rfl Tryz.func44 (by kernel_rfl) rfl #[.slice A0 l0.length c0,.int .i64 x5_1] rfl zE ?_;(with_reducible refine(yac.calls k1 _ _ l0 x5_1 t773 t774 t775 _ ?side1 ?side2 A29.out).mono ?_);(case side1=>exact zC (Kd.C_below HR0.out HB.out));(case side2=>exact HC0.out);rintro e w' ⟨rfl,⟨nd,rfl⟩⟩;refine⟨_,rfl,?_⟩)|((with_reducible refine yad (f:=43) rfl ?_);refine yak (some 78) rfl rfl Tryz.func43 (by kernel_rfl) rfl #[.slice A0 l0.length c0,.int .i64 t774,.int .i64 (l0.length:Int)] rfl zE ?_;(with_reducible refine(yag.calls k1 _ _ l0 t774 (l0.length:Int) t776 _ ?side1 ?side2 A32.out).mono ?_);(case side1=>repeat (first|exact(Kd.C_below HR0.out zB)|(with_reducible refine Kd.C_alloc ?_ _)|(with_reducible refine Kd.C_drewN ?_ _)|(with_reducible refine Kd.C_drew ?_)));(case side2=>exact HC0.out);rintro e w37 ⟨v777,rfl,ho0,hb⟩;refine⟨_,rfl,?_⟩;have n0_:=yaa.mk (Kd.S_elder' (zS HO_7.out) (Kd.R_base ho0) hb);have n1_:=yaa.mk (Kd.R_lower ho0 (yaf zB));have n2_:=yaa.mk (yai zB hb);clear HO_7;clear HB;have HO_7:=n0_;have HO778:=n1_;have HB:=n2_;clear n0_ n1_ n2_;(try clear hb);(try clear hb2);(try clear hk);(try clear hi);(try clear ho0);obtain⟨Ao38,co38,eo38⟩:=Kd.S_slice HO_7.out;subst eo38)|((with_reducible refine yad (f:=119) rfl ?_);refine yak (some 81) rfl rfl Tryz.func119 (by kernel_rfl) rfl #[.int .i64 (x7_1.length:Int)] rfl zE ?_;(with_reducible refine(ydf.calls k1 (x7_1.length:Int) t779 _ A33.out).mono ?_);rintro e w39 ⟨rfl,hb⟩;refine⟨_,rfl,?_⟩;have n0_:=yaa.mk (Kd.S_below (zS HO_7.out) hb);have n1_:=yaa.mk (Kd.R_below (zR HO778.out) hb);have n2_:=yaa.mk (yai zB hb);clear HO_7;clear HO778;clear HB;have HO_7:=n0_;have HO778:=n1_;have HB:=n2_;clear n0_ n1_ n2_;(try clear hb);(try clear hb2);(try clear hk);(try clear hi);obtain⟨Ao40,co40,eo40⟩:=Kd.R_slice HO778.out;subst eo40)|((with_reducible refine yad (f:=73) rfl ?_);refine yak (some 84) rfl rfl Tryz.func73 (by kernel_rfl) rfl #[.slice Ao40 t776.length co40,.int .i64 t779,.int .i64 (wrap64 (t773))] rfl zE ?_;(with_reducible refine(yah.calls k1 _ _ t776 t779 (wrap64 (t773)) t780 t781 _ ?side1 ?side2 A34.out).mono ?_);(case side1=>exact zC (Kd.R_reads' HO778.out).2.2);(case side2=>exact(Kd.R_reads' HO778.out).2.1);rintro e w41 ⟨v782,rfl,ho0,hb⟩;refine⟨_,rfl,?_⟩;have n0_:=yaa.mk (Kd.S_below (zS HO_7.out) hb);have n1_:=yaa.mk (Kd.R_below (zR HO778.out) hb);have n2_:=yaa.mk (Kd.R_lower ho0 (yaf zB));have n3_:=yaa.mk (yai zB hb);clear HO_7;clear HO778;clear HB;have HO_7:=n0_;have HO778:=n1_;have HO783:=n2_;have HB:=n3_;clear n0_ n1_ n2_ n3_;(try clear hb);(try clear hb2);(try clear hk);(try clear hi);(try clear ho0);obtain⟨Ao42,co42,eo42⟩:=Kd.R_slice HO783.out;subst eo42)|((with_reducible refine yad (f:=120) rfl ?_);refine yak (some 92) rfl rfl Tryz.func120 (by kernel_rfl) rfl #[.slice Ao38 x7_1.length co38,.slice Ao42 t780.length co42] rfl zE ?_;(with_reducible refine(yao.calls k1 _ _ x7_1 _ _ t780 t784 t785 _ ?side1 ?side2 ?side3 ?side4 A36.out).mono ?_);(case side1=>exact zC (Kd.S_reads' HO_7.out).2.2);(case side2=>exact(Kd.S_reads' HO_7.out).2.1);(case side3=>exact zC (Kd.R_reads' HO783.out).2.2);(case side4=>exact(Kd.R_reads' HO783.out).2.1);rintro e w43 ⟨v786,rfl,ho0,hb⟩;refine⟨_,rfl,?_⟩;have n0_:=yaa.mk (Kd.S_elder' (zS HO_7.out) (Kd.S_base ho0) hb);have n1_:=yaa.mk (Kd.R_below (zR HO778.out) hb);have n2_:=yaa.mk (Kd.R_below (zR HO783.out) hb);have n3_:=yaa.mk (Kd.S_lower (Kd.S_new' (Kd.S_new' ho0 (Kd.S_lt (zS HO_7.out))) (Kd.R_lt (zR HO778.out))) (yaf zB));have n4_:=yaa.mk (yai zB hb);clear HO_7;clear HO778;clear HO783;clear HB;have HO_7:=n0_;have HO778:=n1_;have HO783:=n2_;have HO787:=n3_;have HB:=n4_;clear n0_ n1_ n2_ n3_ n4_;(try clear hb);(try clear hb2);(try clear hk);(try clear hi);(try clear ho0)))
         go_ret2
         exact⟨_,zG,by (with_reducible repeat (first|apply Kd.S_alloc|apply Kd.S_drewN|apply Kd.S_drew));exact Kd.S_mono HO787.out (fun _ hk=>trivial),zB⟩
        ·rw[if_neg c35] at H
         have c35b0:(t781 == 0)=false:=beq_eq_false_iff_ne.mpr c35
         have c35b1:(t781 != 0)=true:=bne_iff_ne.mpr c35
         simp only[Option.some.injEq,Prod.mk.injEq] at H
         obtain⟨rfl,rfl⟩:=H
         go_wp2_with (first|((with_reducible refine yad (f:=44) rfl ?_);refine yak (some 64) rfl rfl Tryz.func44 (by kernel_rfl) rfl #[.slice A0 l0.length c0,.int .i64 x5_1] rfl zE ?_;(with_reducible refine(yac.calls k1 _ _ l0 x5_1 t773 t774 t775 _ ?side1 ?side2 A29.out).mono ?_);(case side1=>exact zC (Kd.C_below HR0.out HB.out));(case side2=>exact HC0.out);rintro e w' ⟨rfl,⟨nd,rfl⟩⟩;refine⟨_,rfl,?_⟩)|((with_reducible refine yad (f:=43) rfl ?_);refine yak (some 78) rfl rfl Tryz.func43 (by kernel_rfl) rfl #[.slice A0 l0.length c0,.int .i64 t774,.int .i64 (l0.length:Int)] rfl zE ?_;(with_reducible refine(yag.calls k1 _ _ l0 t774 (l0.length:Int) t776 _ ?side1 ?side2 A32.out).mono ?_);(case side1=>repeat (first|exact(Kd.C_below HR0.out zB)|(with_reducible refine Kd.C_alloc ?_ _)|(with_reducible refine Kd.C_drewN ?_ _)|(with_reducible refine Kd.C_drew ?_)));(case side2=>exact HC0.out);rintro e w44 ⟨v777,rfl,ho0,hb⟩;refine⟨_,rfl,?_⟩;have n0_:=yaa.mk (Kd.S_elder' (zS HO_7.out) (Kd.R_base ho0) hb);have n1_:=yaa.mk (Kd.R_lower ho0 (yaf zB));have n2_:=yaa.mk (yai zB hb);clear HO_7;clear HB;have HO_7:=n0_;have HO778:=n1_;have HB:=n2_;clear n0_ n1_ n2_;(try clear hb);(try clear hb2);(try clear hk);(try clear hi);(try clear ho0);obtain⟨Ao45,co45,eo45⟩:=Kd.S_slice HO_7.out;subst eo45)|((with_reducible refine yad (f:=119) rfl ?_);refine yak (some 81) rfl rfl Tryz.func119 (by kernel_rfl) rfl #[.int .i64 (x7_1.length:Int)] rfl zE ?_;(with_reducible refine(ydf.calls k1 (x7_1.length:Int) t779 _ A33.out).mono ?_);rintro e w46 ⟨rfl,hb⟩;refine⟨_,rfl,?_⟩;have n0_:=yaa.mk (Kd.S_below (zS HO_7.out) hb);have n1_:=yaa.mk (Kd.R_below (zR HO778.out) hb);have n2_:=yaa.mk (yai zB hb);clear HO_7;clear HO778;clear HB;have HO_7:=n0_;have HO778:=n1_;have HB:=n2_;clear n0_ n1_ n2_;(try clear hb);(try clear hb2);(try clear hk);(try clear hi);obtain⟨Ao47,co47,eo47⟩:=Kd.R_slice HO778.out;subst eo47)|((with_reducible refine yad (f:=73) rfl ?_);refine yak (some 84) rfl rfl Tryz.func73 (by kernel_rfl) rfl #[.slice Ao47 t776.length co47,.int .i64 t779,.int .i64 (wrap64 (t773))] rfl zE ?_;(with_reducible refine(yah.calls k1 _ _ t776 t779 (wrap64 (t773)) t780 t781 _ ?side1 ?side2 A34.out).mono ?_);(case side1=>exact zC (Kd.R_reads' HO778.out).2.2);(case side2=>exact(Kd.R_reads' HO778.out).2.1);rintro e w48 ⟨v782,rfl,ho0,hb⟩;refine⟨_,rfl,?_⟩;have n0_:=yaa.mk (Kd.S_below (zS HO_7.out) hb);have n1_:=yaa.mk (Kd.R_below (zR HO778.out) hb);have n2_:=yaa.mk (Kd.R_lower ho0 (yaf zB));have n3_:=yaa.mk (yai zB hb);clear HO_7;clear HO778;clear HB;have HO_7:=n0_;have HO778:=n1_;have HO783:=n2_;have HB:=n3_;clear n0_ n1_ n2_ n3_;(try clear hb);(try clear hb2);(try clear hk);(try clear hi);(try clear ho0)))
         go_ret2
         exact⟨_,zG,by first|exact Kd.S_nil _ _ _ _ _|exact Kd.N_nil _ _ _ _ _|exact Kd.V_nil _ _ _ _ _|exact Kd.Q_nil _ _ _ _ _|exact Kd.R_nil _ _ _ _ _,zB⟩
      ·rw[if_neg c30] at H
       have c30b0:(t775 == 0)=false:=beq_eq_false_iff_ne.mpr c30
       have c30b1:(t775 != 0)=true:=bne_iff_ne.mpr c30
       simp only[Option.some.injEq,Prod.mk.injEq] at H
       obtain⟨rfl,rfl⟩:=H
       go_wp2_with (first|((with_reducible refine yad (f:=44) rfl ?_);refine yak (some 64) rfl rfl Tryz.func44 (by kernel_rfl) rfl #[.slice A0 l0.length c0,.int .i64 x5_1] rfl zE ?_;(with_reducible refine(yac.calls k1 _ _ l0 x5_1 t773 t774 t775 _ ?side1 ?side2 A29.out).mono ?_);(case side1=>exact zC (Kd.C_below HR0.out HB.out));(case side2=>exact HC0.out);rintro e w' ⟨rfl,⟨nd,rfl⟩⟩;refine⟨_,rfl,?_⟩))
       go_ret2
       exact⟨_,zG,by first|exact Kd.S_nil _ _ _ _ _|exact Kd.N_nil _ _ _ _ _|exact Kd.V_nil _ _ _ _ _|exact Kd.Q_nil _ _ _ _ _|exact Kd.R_nil _ _ _ _ _,zB⟩
 ·rw[if_neg c3] at H
  have c3b0:(t756 == 0)=false:=beq_eq_false_iff_ne.mpr c3
  have c3b1:(t756 != 0)=true:=bne_iff_ne.mpr c3
  simp only[Option.some.injEq,Prod.mk.injEq] at H
  obtain⟨rfl,rfl⟩:=H
  go_enter Tryz.func78,Tryz.ntmps78
  go_wp2_with (first|((with_reducible refine yad (f:=44) rfl ?_);refine yak (some 19) rfl rfl Tryz.func44 (by kernel_rfl) rfl #[.slice A0 l0.length c0,.int .i64 0] rfl zE ?_;(with_reducible refine(yac.calls k _ _ l0 0 t754 t755 t756 _ ?side1 ?side2 A2.out).mono ?_);(case side1=>exact zC HR0.out);(case side2=>exact HC0.out);rintro e w' ⟨rfl,⟨nd,rfl⟩⟩;refine⟨_,rfl,?_⟩))
  go_ret2
  exact⟨_,zG,by first|exact Kd.S_nil _ _ _ _ _|exact Kd.N_nil _ _ _ _ _|exact Kd.V_nil _ _ _ _ _|exact Kd.Q_nil _ _ _ _ _|exact Kd.R_nil _ _ _ _ _,zB⟩
end Go.Proofs.YteeikgjjgfdjgaaGreat.PK
end
