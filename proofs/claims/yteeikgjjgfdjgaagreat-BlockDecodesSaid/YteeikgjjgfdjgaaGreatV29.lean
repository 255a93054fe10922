/-
  Parts of the proof: E22, E23.
-/
import Derived.Test.YteeikgjjgfdjgaaGreatV16
set_option maxHeartbeats 8000000
set_option maxRecDepth 100000
section
namespace Go.Proofs.YteeikgjjgfdjgaaGreat.PK
open Go.RowKit YteeikgjjgfdjgaaGreatW.PrintWords YteeikgjjgfdjgaaGreatW.PrintLast YteeikgjjgfdjgaaGreatW.PrintMore
attribute [local go_sem] yce ycf ycu ycv yb8 yb7 ycm yco
set_option linter.unusedVariables false
set_option linter.unusedSimpArgs false
def ybr.l0:Nat→Int→List Int→Int→List (S53)→Int→Int→Option ((List (S53))×Int)
 | 0,_,_,_,_,_,_=>none
 | k+1,x0,x1,x2,x8,x9,x10=>if x10<x2 then ((yac.f k x1 x9).bind fun bt657=>(if bt657.2.2=0 then (if x0≤6 then ((yc1.f bt657.1).bind fun t660=>(if x8.length<3518437208883 then (ybr.l0 k x0 x1 x2 (x8++[(⟨false,t660,([]:List Int)⟩:S53)]) bt657.2.1 (wrap64 (x10+1))) else (none))) else (if bt657.1 > 200 then (some (([]:List (S53)),4)) else (if bt657.1 > (IntKind.u64.wrap (wrap64 ((x1.length:Int)-bt657.2.1))) then (some (([]:List (S53)),2)) else ((yag.f k x1 bt657.2.1 (wrap64 (bt657.2.1+(wrap64 (bt657.1))))).bind fun t664=>(if x8.length<3518437208883 then (ybr.l0 k x0 x1 x2 (x8++[(⟨false,0,t664⟩:S53)]) (wrap64 (bt657.2.1+(wrap64 (bt657.1)))) (wrap64 (x10+1))) else (none)))))) else (some (([]:List (S53)),bt657.2.2)))) else (if x9<(x1.length:Int) then (some (([]:List (S53)),3)) else (some (x8,0)))
def ybr.f (k:Nat) (a0:Int) (l1:List Int) (a2:Int):Option ((List (S53))×Int):=ybr.l0 k a0 l1 a2 (([]:List (S53))) 0 0
theorem ybr.calls (k:Nat) (a0:Int) (A1:Option Addr) (c1:Nat) (l1:List Int) (a2:Int) (r1:List (S53)) (r2:Int) (w:World) (hr1:Kd.C (Kd.int .u8) w A1 l1.length l1) (hc1:l1.length≤c1) (h:ybr.f k a0 l1 a2=some (r1,r2)) :
  Calls Tryz.prog 75 #[.int .i64 a0,.slice A1 l1.length c1,.int .i64 a2] w fun e w'=>∃ v0_:Value,e=.returned (.tuple #[v0_,.int .i64 r2])∧Kd.S k53 53 w' w.heap.size (fun _=>True) v0_ r1∧Below w.heap.size w w':=by
 have hu53:=Tryz.underlying53
 have HR1:=yaa.mk hr1
 have HC1:=yaa.mk hc1
 clear hr1 hc1
 have HB:=yaa.mk (Below.refl w.heap.size w)
 have H:(ybr.l0 k a0 l1 a2 (([]:List (S53))) 0 0)=some (r1,r2):=h
 clear h
 obtain⟨y654,hy654⟩:∃ y_:List (S53),y_=(([]:List (S53))):=⟨_,rfl⟩
 replace H:(ybr.l0 k a0 l1 a2 y654 0 0)=some (r1,r2):=by first|(rw[hy654];with_reducible exact H)|(have H2_:=(Option.bind_some _ _).symm.trans H;rw[hy654];with_reducible exact H2_)|(have H2_:=(Option.bind_some _ _).symm.trans H;with_reducible exact H2_)|with_reducible exact H|(rw[hy654];exact H)|exact H
 have Ny654:=yaa.mk hy654
 clear hy654
 have H':=yaa.mk H
 clear H
 go_enter Tryz.func75,Tryz.ntmps75
 go_wp2_with (first|((with_reducible refine yb1 (N:=14) rfl ?_);refine Kd.S_lit k53 _ 53 ?hg (N:=14) ?hd (xs:=([]:List (S53))) (inner:=[]) (ok:=fun _=>True) (okp:=fun _=>True) ?hr ?hp (fun _ hk=>hk) trivial (Below.refl _ _) (Nat.le_refl _) (by simp) ?_;(case hd=>rfl);(case hg=>rfl);(case hr=>first|(go_simp;done)|(go_simp;rfl));(case hp=>exact(Reps.none _ _));intro v655 w4 ho5 hb hg_ hnew_;clear hg_ hnew_;(first|rw[← Ny654.out] at ho5|(simp only[Int.reduceToNat] at ho5;rw[← Ny654.out] at ho5));have n0_:=yaa.mk (Kd.S_lower ho5 (yaf zB));have n1_:=yaa.mk (yai zB hb);clear HB;have HO656:=n0_;have HB:=n1_;clear n0_ n1_;clear hb ho5))
 go_loopg [8,9,10] k (fun kq v8 v9 v10 w'=>∃ (x8_1:List (S53)) (x9_1:Int) (x10_1:Int),v9=.int .i64 x9_1∧v10=.int .i64 x10_1∧yaa (ybr.l0 kq a0 l1 a2 x8_1 x9_1 x10_1=some (r1,r2))∧yaa (kq≤k)∧yaa (Kd.S k53 53 w' w.heap.size (fun _=>True) v8 x8_1)∧yaa (Below w.heap.size w w'))
 case atStart=>exact⟨(y654),(0),(0),zF,zF,H',⟨Nat.le_refl _⟩,⟨zS HO656.out⟩,⟨zB⟩⟩
 case round =>
  clear H'
  try clear c1
  try clear p2
  obtain⟨x8_1,x9_1,x10_1,rfl,rfl,HA,HK1,HO_8,HB⟩:=hrel
  cases gk with
  | zero=>exact absurd HA.out (by simp [ybr.l0])
  | succ k1 =>
   have H:=HA.out
   clear HA
   simp only[ybr.l0] at H
   by_cases c6:x10_1<a2
   ·rw[if_pos c6] at H
    have c6b0:=decide_eq_true c6
    clear c6
    replace H:=Option.bind_eq_some_iff.mp H
    obtain⟨⟨t657,t658,t659⟩,A70,H⟩:=H
    try dsimp only at H
    have A7:=yaa.mk A70
    clear A70
    by_cases c8:t659=0
    ·rw[if_pos c8] at H
     have c8b0:(t659 == 0)=true:=beq_iff_eq.mpr c8
     have c8b1:(t659 != 0)=false:=bne_eq_false_iff_eq.mpr c8
     clear c8
     by_cases c9:a0≤6
     ·rw[if_pos c9] at H
      have c9b0:=decide_eq_true c9
      clear c9
      replace H:=Option.bind_eq_some_iff.mp H
      obtain⟨t660,A100,H⟩:=H
      try dsimp only at H
      have A10:=yaa.mk A100
      clear A100
      by_cases c11:x8_1.length<3518437208883
      ·rw[if_pos c11] at H
       have LMc11:=yaa.mk c11
       clear c11
       obtain⟨y661,hy661⟩:∃ y_:List (S53),y_=(x8_1++[(⟨false,t660,([]:List Int)⟩:S53)]):=⟨_,rfl⟩
       replace H:(ybr.l0 k1 a0 l1 a2 y661 t658 (wrap64 (x10_1+1)))=some (r1,r2):=by first|(rw[hy661];with_reducible exact H)|(have H2_:=(Option.bind_some _ _).symm.trans H;rw[hy661];with_reducible exact H2_)|(have H2_:=(Option.bind_some _ _).symm.trans H;with_reducible exact H2_)|with_reducible exact H|(rw[hy661];exact H)|exact H
       have Ny661:=yaa.mk hy661
       clear hy661
       have H':=yaa.mk H
       clear H
       go_wp2_with (first|((with_reducible refine yad (f:=44) rfl ?_);refine yak (some 23) rfl rfl Tryz.func44 (by kernel_rfl) rfl #[.slice A1 l1.length c1,.int .i64 x9_1] rfl zE ?_;(with_reducible refine(yac.calls k1 _ _ l1 x9_1 t657 t658 t659 _ ?side1 ?side2 A7.out).mono ?_);(case side1=>exact zC (Kd.C_below HR1.out HB.out));(case side2=>exact HC1.out);rintro e w' ⟨rfl,⟨nd,rfl⟩⟩;refine⟨_,rfl,?_⟩)|((with_reducible refine yad (f:=115) rfl ?_);refine yak (some 34) rfl rfl Tryz.func115 (by kernel_rfl) rfl #[.int .u64 t657] rfl zE ?_;(with_reducible refine(yc1.calls t657 t660 _ A10.out).mono ?_);rintro e w' ⟨rfl,⟨nd,rfl⟩⟩;refine⟨_,rfl,?_⟩)|((with_reducible refine ybm (b:=.append) (xs:=#[.tmp 32,.tmp 36]) rfl ?_);at_builtin;refine Kd.S_append k53 (w0:=w) w.heap.size rfl (.tmp 32) (.tmp 36) 22 53 (.agg #[(.bool false),(.int .i64 0),(.slice none 0 0)]) 40 rfl Tryz.underlying22 ygj rfl (by decide) (by omega) u8 x8_1 (⟨false,t660,([]:List Int)⟩:S53) [.bool false,.int .i64 t660,.slice none 0 0] (fun _=>True) (fun _=>False) rfl rfl ?aP (fun k_ hk_=>hk_.elim) ?aF ?aO ?aB ?aS ?aL ?_;(case aP=>exact yml _ _ _ (⟨false,t660,([]:List Int)⟩:S53) (Kd.R_nil _ _ _ _ _));(case aB=>exact zB);(case aF=>exact fun _ _=>trivial);(case aO=>exact(by (with_reducible repeat (first|apply Kd.S_alloc|apply Kd.S_drewN|apply Kd.S_drew));exact Kd.S_mono HO_8.out (fun k_ hk=>⟨trivial,fun e_=>e_⟩)));(case aS=>exact(yaf zB));(case aL=>have:=LMc11.out;omega);intro v662 w12 ho hb hg hat;rw[← Ny661.out] at ho;have n0_:=yaa.mk (hb);have n1_:=yaa.mk (ho);clear HB;clear HO_8;have HB:=n0_;have HO663:=n1_;clear n0_ n1_;clear ho hb hg hat))
       go_roundg k1
       case measure=>have:=HK1.out;omega
       case rel=>exact⟨(y661),(t658),(wrap64 (x10_1+1)),zF,zF,H',⟨by have:=HK1.out;omega⟩,⟨zS HO663.out⟩,⟨zB⟩⟩
      ·rw[if_neg c11] at H
       exact absurd H (by simp)
     ·rw[if_neg c9] at H
      have c9b0:=decide_eq_false c9
      clear c9
      by_cases c13:t657 > 200
      ·rw[if_pos c13] at H
       have c13b0:decide (200<t657)=true:=decide_eq_true c13
       clear c13
       simp only[Option.some.injEq,Prod.mk.injEq] at H
       obtain⟨rfl,rfl⟩:=H
       go_wp2_with (first|((with_reducible refine yad (f:=44) rfl ?_);refine yak (some 23) rfl rfl Tryz.func44 (by kernel_rfl) rfl #[.slice A1 l1.length c1,.int .i64 x9_1] rfl zE ?_;(with_reducible refine(yac.calls k1 _ _ l1 x9_1 t657 t658 t659 _ ?side1 ?side2 A7.out).mono ?_);(case side1=>exact zC (Kd.C_below HR1.out HB.out));(case side2=>exact HC1.out);rintro e w' ⟨rfl,⟨nd,rfl⟩⟩;refine⟨_,rfl,?_⟩))
       go_ret2
       exact⟨_,zG,by first|exact Kd.S_nil _ _ _ _ _|exact Kd.N_nil _ _ _ _ _|exact Kd.V_nil _ _ _ _ _|exact Kd.Q_nil _ _ _ _ _|exact Kd.R_nil _ _ _ _ _,zB⟩
      ·rw[if_neg c13] at H
       have c13b0:decide (200<t657)=false:=decide_eq_false c13
       clear c13
       by_cases c14:t657 > (IntKind.u64.wrap (wrap64 ((l1.length:Int)-t658)))
       ·rw[if_pos c14] at H
        have c14b0:decide ((IntKind.u64.wrap (wrap64 ((l1.length:Int)-t658)))<t657)=true:=decide_eq_true c14
        clear c14
        simp only[Option.some.injEq,Prod.mk.injEq] at H
        obtain⟨rfl,rfl⟩:=H
        go_wp2_with (first|((with_reducible refine yad (f:=44) rfl ?_);refine yak (some 23) rfl rfl Tryz.func44 (by kernel_rfl) rfl #[.slice A1 l1.length c1,.int .i64 x9_1] rfl zE ?_;(with_reducible refine(yac.calls k1 _ _ l1 x9_1 t657 t658 t659 _ ?side1 ?side2 A7.out).mono ?_);(case side1=>exact zC (Kd.C_below HR1.out HB.out));(case side2=>exact HC1.out);rintro e w' ⟨rfl,⟨nd,rfl⟩⟩;refine⟨_,rfl,?_⟩))
        go_ret2
        exact⟨_,zG,by first|exact Kd.S_nil _ _ _ _ _|exact Kd.N_nil _ _ _ _ _|exact Kd.V_nil _ _ _ _ _|exact Kd.Q_nil _ _ _ _ _|exact Kd.R_nil _ _ _ _ _,zB⟩
       ·rw[if_neg c14] at H
        have c14b0:decide ((IntKind.u64.wrap (wrap64 ((l1.length:Int)-t658)))<t657)=false:=decide_eq_false c14
        clear c14
        replace H:=Option.bind_eq_some_iff.mp H
        obtain⟨t664,A150,H⟩:=H
        try dsimp only at H
        have A15:=yaa.mk A150
        clear A150
        by_cases c16:x8_1.length<3518437208883
        ·rw[if_pos c16] at H
         have LMc16:=yaa.mk c16
         clear c16
         obtain⟨y667,hy667⟩:∃ y_:List (S53),y_=(x8_1++[(⟨false,0,t664⟩:S53)]):=⟨_,rfl⟩
         replace H:(ybr.l0 k1 a0 l1 a2 y667 (wrap64 (t658+(wrap64 (t657)))) (wrap64 (x10_1+1)))=some (r1,r2):=by first|(rw[hy667];with_reducible exact H)|(have H2_:=(Option.bind_some _ _).symm.trans H;rw[hy667];with_reducible exact H2_)|(have H2_:=(Option.bind_some _ _).symm.trans H;with_reducible exact H2_)|with_reducible exact H|(rw[hy667];exact H)|exact H
         have Ny667:=yaa.mk hy667
         clear hy667
         have H':=yaa.mk H
         clear H
         go_wp2_with (first|((with_reducible refine yad (f:=44) rfl ?_);refine yak (some 23) rfl rfl Tryz.func44 (by kernel_rfl) rfl #[.slice A1 l1.length c1,.int .i64 x9_1] rfl zE ?_;(with_reducible refine(yac.calls k1 _ _ l1 x9_1 t657 t658 t659 _ ?side1 ?side2 A7.out).mono ?_);(case side1=>exact zC (Kd.C_below HR1.out HB.out));(case side2=>exact HC1.out);rintro e w' ⟨rfl,⟨nd,rfl⟩⟩;refine⟨_,rfl,?_⟩)|((with_reducible refine yad (f:=43) rfl ?_);refine yak (some 56) rfl rfl Tryz.func43 (by kernel_rfl) rfl #[.slice A1 l1.length c1,.int .i64 t658,.int .i64 (wrap64 (t658+(wrap64 (t657))))] rfl zE ?_;(with_reducible refine(yag.calls k1 _ _ l1 t658 (wrap64 (t658+(wrap64 (t657)))) t664 _ ?side1 ?side2 A15.out).mono ?_);(case side1=>repeat (first|exact(Kd.C_below HR1.out zB)|(with_reducible refine Kd.C_alloc ?_ _)|(with_reducible refine Kd.C_drewN ?_ _)|(with_reducible refine Kd.C_drew ?_)));(case side2=>exact HC1.out);rintro e w17 ⟨v665,rfl,ho0,hb⟩;refine⟨_,rfl,?_⟩;have n0_:=yaa.mk (Kd.S_elder' (zS HO_8.out) (Kd.R_base ho0) hb);have n1_:=yaa.mk (Kd.R_lower ho0 (yaf zB));have n2_:=yaa.mk (yai zB hb);clear HO_8;clear HB;have HO_8:=n0_;have HO666:=n1_;have HB:=n2_;clear n0_ n1_ n2_;(try clear hb);(try clear hb2);(try clear hk);(try clear hi);(try clear ho0);obtain⟨Ao18,co18,eo18⟩:=Kd.R_slice HO666.out;subst eo18)|((with_reducible refine ybm (b:=.append) (xs:=#[.tmp 52,.tmp 58]) rfl ?_);at_builtin;refine Kd.S_append k53 (w0:=w) w.heap.size rfl (.tmp 52) (.tmp 58) 22 53 (.agg #[(.bool false),(.int .i64 0),(.slice none 0 0)]) 40 rfl Tryz.underlying22 ygj rfl (by decide) (by omega) u8 x8_1 (⟨false,0,t664⟩:S53) [.bool false,.int .i64 0,.slice Ao18 t664.length co18] (fun _=>True) (fun k_=>some k_=(.slice Ao18 t664.length co18:Value).ownBlock) rfl rfl ?aP (fun k_ hk_=>((Kd.R_mono (ok':=fun k_=>((fun _=>True)) k_∧some k_≠(u8:Value).ownBlock) (Kd.R_apart' (HO666.out) (Kd.S_typed HO_8.out) (by decide)) (fun k_ hk=>⟨trivial,hk.2⟩))).1 k_ hk_.symm) ?aF ?aO ?aB ?aS ?aL ?_;(case aP=>exact yml _ _ _ (⟨false,0,t664⟩:S53) (Kd.R_mono (Kd.R_tight rfl (Kd.R_mono (ok':=fun k_=>((fun _=>True)) k_∧some k_≠(u8:Value).ownBlock) (Kd.R_apart' (HO666.out) (Kd.S_typed HO_8.out) (by decide)) (fun k_ hk=>⟨trivial,hk.2⟩))) (fun _ h_=>h_)));(case aB=>exact zB);(case aF=>exact fun _ _=>trivial);(case aO=>exact(by (with_reducible repeat (first|apply Kd.S_alloc|apply Kd.S_drewN|apply Kd.S_drew));exact Kd.S_mono HO_8.out (fun k_ hk=>⟨trivial,fun e_=>hk.2 e_⟩)));(case aS=>exact(yaf zB));(case aL=>have:=LMc16.out;omega);intro v668 w19 ho hb hg hat;rw[← Ny667.out] at ho;have n0_:=yaa.mk (hb);have n1_:=yaa.mk (ho);clear HB;clear HO_8;clear HO666;have HB:=n0_;have HO669:=n1_;clear n0_ n1_;clear ho hb hg hat))
         go_roundg k1
         case measure=>have:=HK1.out;omega
         case rel=>exact⟨(y667),(wrap64 (t658+(wrap64 (t657)))),(wrap64 (x10_1+1)),zF,zF,H',⟨by have:=HK1.out;omega⟩,⟨zS HO669.out⟩,⟨zB⟩⟩
        ·rw[if_neg c16] at H
         exact absurd H (by simp)
    ·rw[if_neg c8] at H
     have c8b0:(t659 == 0)=false:=beq_eq_false_iff_ne.mpr c8
     have c8b1:(t659 != 0)=true:=bne_iff_ne.mpr c8
     simp only[Option.some.injEq,Prod.mk.injEq] at H
     obtain⟨rfl,rfl⟩:=H
     go_wp2_with (first|((with_reducible refine yad (f:=44) rfl ?_);refine yak (some 23) rfl rfl Tryz.func44 (by kernel_rfl) rfl #[.slice A1 l1.length c1,.int .i64 x9_1] rfl zE ?_;(with_reducible refine(yac.calls k1 _ _ l1 x9_1 t657 t658 t659 _ ?side1 ?side2 A7.out).mono ?_);(case side1=>exact zC (Kd.C_below HR1.out HB.out));(case side2=>exact HC1.out);rintro e w' ⟨rfl,⟨nd,rfl⟩⟩;refine⟨_,rfl,?_⟩))
     go_ret2
     exact⟨_,zG,by first|exact Kd.S_nil _ _ _ _ _|exact Kd.N_nil _ _ _ _ _|exact Kd.V_nil _ _ _ _ _|exact Kd.Q_nil _ _ _ _ _|exact Kd.R_nil _ _ _ _ _,zB⟩
   ·rw[if_neg c6] at H
    have c6b0:=decide_eq_false c6
    clear c6
    by_cases c20:x9_1<(l1.length:Int)
    ·rw[if_pos c20] at H
     have c20b0:=decide_eq_true c20
     clear c20
     simp only[Option.some.injEq,Prod.mk.injEq] at H
     obtain⟨rfl,rfl⟩:=H
     go_wp2
     go_ret2
     exact⟨_,zG,by first|exact Kd.S_nil _ _ _ _ _|exact Kd.N_nil _ _ _ _ _|exact Kd.V_nil _ _ _ _ _|exact Kd.Q_nil _ _ _ _ _|exact Kd.R_nil _ _ _ _ _,zB⟩
    ·rw[if_neg c20] at H
     have c20b0:=decide_eq_false c20
     clear c20
     simp only[Option.some.injEq,Prod.mk.injEq] at H
     obtain⟨rfl,rfl⟩:=H
     go_wp2
     go_ret2
     exact⟨_,zG,zS HO_8.out,zB⟩
mutual
def yaq.l0:Nat→List Int→Int→Int→List Int→Int→Option (List Int×Int)
 | 0,_,_,_,_,_=>none
 | k+1,x0,x4,x5,x7,x8=>if x8<x4 then ((yac.f k x0 x5).bind fun bt676=>(if bt676.2.2=0 then ((yac.f k x0 bt676.2.1).bind fun bt679=>(if bt679.2.2=0 then ((yc1.f bt676.1).bind fun t682=>(if bt679.1=0 then (yaq.j1 k x0 x4 x7 x8 bt679.1 bt679.2.1 t682 true) else (if x8 > 0 then (if 0≤(wrap64 ((x7.length:Int)-1)) then (if (wrap64 ((x7.length:Int)-1))<(x7.length:Int) then (yaq.j1 k x0 x4 x7 x8 bt679.1 bt679.2.1 t682 ((rd x7 (wrap64 ((x7.length:Int)-1))) == t682)) else (none)) else (none)) else (yaq.j1 k x0 x4 x7 x8 bt679.1 bt679.2.1 t682 false)))) else (some (([]:List Int),bt679.2.2)))) else (some (([]:List Int),bt676.2.2)))) else (if x5<(x0.length:Int) then (some (([]:List Int),3)) else (some (x7,0)))
def yaq.j1:Nat→List Int→Int→List Int→Int→Int→Int→Int→Bool→Option (List Int×Int)
 | 0,_,_,_,_,_,_,_,_=>none
 | k+1,x0,x4,x7,x8,x12,x13,x15,x71=>if x71=true then (some (([]:List Int),5)) else (if x12 > (IntKind.u64.wrap (wrap64 (4096-(x7.length:Int)))) then (some (([]:List Int),4)) else (yaq.l1 k x0 x4 x7 x8 x12 x13 x15 0))
def yaq.l1:Nat→List Int→Int→List Int→Int→Int→Int→Int→Int→Option (List Int×Int)
 | 0,_,_,_,_,_,_,_,_=>none
 | k+1,x0,x4,x7,x8,x12,x13,x15,x16=>if x16<x12 then (if x7.length<17592186044416 then (yaq.l1 k x0 x4 (x7++[x15]) x8 x12 x13 x15 (IntKind.u64.wrap (x16+1))) else (none)) else (yaq.l0 k x0 x4 x13 x7 (IntKind.u64.wrap (x8+1)))
end
def yaq.f (k:Nat) (l0:List Int):Option (List Int×Int):=(yac.f k l0 0).bind fun bt670=>(if bt670.2.2=0 then (if bt670.1 > 4096 then (some (([]:List Int),4)) else (yaq.l0 k l0 bt670.1 bt670.2.1 (([]:List Int)) 0)) else (some (([]:List Int),bt670.2.2)))
theorem yaq.calls (k:Nat) (A0:Option Addr) (c0:Nat) (l0:List Int) (r1:List Int) (r2:Int) (w:World) (hr0:Kd.C (Kd.int .u8) w A0 l0.length l0) (hc0:l0.length≤c0) (h:yaq.f k l0=some (r1,r2)) :
  Calls Tryz.prog 76 #[.slice A0 l0.length c0] w fun e w'=>∃ v0_:Value,e=.returned (.tuple #[v0_,.int .i64 r2])∧Kd.R (Kd.int .i64) 2 w' w.heap.size (fun _=>True) v0_ r1∧Below w.heap.size w w':=by
 have HR0:=yaa.mk hr0
 have HC0:=yaa.mk hc0
 clear hr0 hc0
 have HB:=yaa.mk (Below.refl w.heap.size w)
 have H:((yac.f k l0 0).bind fun bt670=>(if bt670.2.2=0 then (if bt670.1 > 4096 then (some (([]:List Int),4)) else (yaq.l0 k l0 bt670.1 bt670.2.1 (([]:List Int)) 0)) else (some (([]:List Int),bt670.2.2))))=some (r1,r2):=h
 clear h
 replace H:=Option.bind_eq_some_iff.mp H
 obtain⟨⟨t670,t671,t672⟩,A20,H⟩:=H
 try dsimp only at H
 have A2:=yaa.mk A20
 clear A20
 by_cases c3:t672=0
 ·rw[if_pos c3] at H
  have c3b0:(t672 == 0)=true:=beq_iff_eq.mpr c3
  have c3b1:(t672 != 0)=false:=bne_eq_false_iff_eq.mpr c3
  clear c3
  by_cases c4:t670 > 4096
  ·rw[if_pos c4] at H
   have c4b0:decide (4096<t670)=true:=decide_eq_true c4
   clear c4
   simp only[Option.some.injEq,Prod.mk.injEq] at H
   obtain⟨rfl,rfl⟩:=H
   go_enter Tryz.func76,Tryz.ntmps76
   go_wp2_with (first|((with_reducible refine yad (f:=44) rfl ?_);refine yak (some 19) rfl rfl Tryz.func44 (by kernel_rfl) rfl #[.slice A0 l0.length c0,.int .i64 0] rfl zE ?_;(with_reducible refine(yac.calls k _ _ l0 0 t670 t671 t672 _ ?side1 ?side2 A2.out).mono ?_);(case side1=>exact zC HR0.out);(case side2=>exact HC0.out);rintro e w' ⟨rfl,⟨nd,rfl⟩⟩;refine⟨_,rfl,?_⟩))
   go_ret2
   exact⟨_,zG,zN,zB⟩
  ·rw[if_neg c4] at H
   have c4b0:decide (4096<t670)=false:=decide_eq_false c4
   clear c4
   obtain⟨y673,hy673⟩:∃ y_:List Int,y_=(([]:List Int)):=⟨_,rfl⟩
   replace H:(yaq.l0 k l0 t670 t671 y673 0)=some (r1,r2):=by first|(rw[hy673];with_reducible exact H)|(have H2_:=(Option.bind_some _ _).symm.trans H;rw[hy673];with_reducible exact H2_)|(have H2_:=(Option.bind_some _ _).symm.trans H;with_reducible exact H2_)|with_reducible exact H|(rw[hy673];exact H)|exact H
   have Ny673:=yaa.mk hy673
   clear hy673
   have H':=yaa.mk H
   clear H
   go_enter Tryz.func76,Tryz.ntmps76
   go_wp2_with (first|((with_reducible refine yad (f:=44) rfl ?_);refine yak (some 19) rfl rfl Tryz.func44 (by kernel_rfl) rfl #[.slice A0 l0.length c0,.int .i64 0] rfl zE ?_;(with_reducible refine(yac.calls k _ _ l0 0 t670 t671 t672 _ ?side1 ?side2 A2.out).mono ?_);(case side1=>exact zC HR0.out);(case side2=>exact HC0.out);rintro e w' ⟨rfl,⟨nd,rfl⟩⟩;refine⟨_,rfl,?_⟩)|((with_reducible refine yb1 (N:=28) rfl ?_);(try (refine ygw (by rfl) ?_;dsimp only));refine Kd.R_lit (Kd.int .i64) _ 2 ?hg (N:=28) ?hd (xs:=([]:List Int)) (inner:=[]) (ok:=fun _=>True) (okp:=fun _=>True) ?hr ?hp (fun _ hk=>hk) trivial (Below.refl _ _) (Nat.le_refl _) (by simp) ?_;(case hd=>rfl);(case hg=>rfl);(case hr=>first|(go_simp;done)|(go_simp;rfl));(case hp=>exact(Reps.none _ _));intro v674 w5 ho6 hb hg_ hnew_;clear hg_ hnew_;(first|rw[← Ny673.out] at ho6|(simp only[Int.reduceToNat] at ho6;rw[← Ny673.out] at ho6));have n0_:=yaa.mk (Kd.R_lower ho6 (yaf zB));have n1_:=yaa.mk (yai zB hb);clear HB;have HO675:=n0_;have HB:=n1_;clear n0_ n1_;clear hb ho6))
   go_loopg [5,7,8] k (fun kq v5 v7 v8 w'=>∃ (x5_1:Int) (x7_1:List Int) (x8_1:Int),v5=.int .i64 x5_1∧v8=.int .u64 x8_1∧yaa (yaq.l0 kq l0 t670 x5_1 x7_1 x8_1=some (r1,r2))∧yaa (kq≤k)∧yaa (Kd.R (Kd.int .i64) 2 w' w.heap.size (fun _=>True) v7 x7_1)∧yaa (Below w.heap.size w w'))
   case atStart=>exact⟨(t671),(y673),(0),zF,zF,H',⟨Nat.le_refl _⟩,⟨zR HO675.out⟩,⟨zB⟩⟩
   case round =>
    clear H'
    try clear p2
    try clear c3
    try clear c3b0
    try clear c3b1
    try clear c4
    try clear c4b0
    obtain⟨x5_1,x7_1,x8_1,rfl,rfl,HA,HK1,HO_7,HB⟩:=hrel
    cases gk with
    | zero=>exact absurd HA.out (by simp [yaq.l0])
    | succ k1 =>
     have H:=HA.out
     clear HA
     simp only[yaq.l0] at H
     by_cases c7:x8_1<t670
     ·rw[if_pos c7] at H
      have c7b0:=decide_eq_true c7
      clear c7
      replace H:=Option.bind_eq_some_iff.mp H
      obtain⟨⟨t676,t677,t678⟩,A80,H⟩:=H
      try dsimp only at H
      have A8:=yaa.mk A80
      clear A80
      by_cases c9:t678=0
      ·rw[if_pos c9] at H
       have c9b0:(t678 == 0)=true:=beq_iff_eq.mpr c9
       have c9b1:(t678 != 0)=false:=bne_eq_false_iff_eq.mpr c9
       clear c9
       replace H:=Option.bind_eq_some_iff.mp H
       obtain⟨⟨t679,t680,t681⟩,A100,H⟩:=H
       try dsimp only at H
       have A10:=yaa.mk A100
       clear A100
       by_cases c11:t681=0
       ·rw[if_pos c11] at H
        have c11b0:(t681 == 0)=true:=beq_iff_eq.mpr c11
        have c11b1:(t681 != 0)=false:=bne_eq_false_iff_eq.mpr c11
        clear c11
        replace H:=Option.bind_eq_some_iff.mp H
        obtain⟨t682,A120,H⟩:=H
        try dsimp only at H
        have A12:=yaa.mk A120
        clear A120
        have HC13:=yaa.mk H
        clear H
        go_upto_region 17 with (first|((with_reducible refine yad (f:=44) rfl ?_);refine yak (some 37) rfl rfl Tryz.func44 (by kernel_rfl) rfl #[.slice A0 l0.length c0,.int .i64 x5_1] rfl zE ?_;(with_reducible refine(yac.calls k1 _ _ l0 x5_1 t676 t677 t678 _ ?side1 ?side2 A8.out).mono ?_);(case side1=>exact zC (Kd.C_below HR0.out HB.out));(case side2=>exact HC0.out);rintro e w' ⟨rfl,⟨nd,rfl⟩⟩;refine⟨_,rfl,?_⟩)|((with_reducible refine yad (f:=44) rfl ?_);refine yak (some 47) rfl rfl Tryz.func44 (by kernel_rfl) rfl #[.slice A0 l0.length c0,.int .i64 t677] rfl zE ?_;(with_reducible refine(yac.calls k1 _ _ l0 t677 t679 t680 t681 _ ?side1 ?side2 A10.out).mono ?_);(case side1=>repeat (first|exact(Kd.C_below HR0.out zB)|(with_reducible refine Kd.C_alloc ?_ _)|(with_reducible refine Kd.C_drewN ?_ _)|(with_reducible refine Kd.C_drew ?_)));(case side2=>exact HC0.out);rintro e w' ⟨rfl,⟨nd,rfl⟩⟩;refine⟨_,rfl,?_⟩)|((with_reducible refine yad (f:=115) rfl ?_);refine yak (some 55) rfl rfl Tryz.func115 (by kernel_rfl) rfl #[.int .u64 t676] rfl zE ?_;(with_reducible refine(yc1.calls t676 t682 _ A12.out).mono ?_);rintro e w' ⟨rfl,⟨nd,rfl⟩⟩;refine⟨_,rfl,?_⟩))
        (try simp only[Act.put,List.setIfInBounds_toArray,List.set_cons_zero,List.set_cons_succ])
        go_cut [71] (fun v71 wc=>∃ (kq:Nat) (x71_12:Bool),v71=.bool x71_12∧yaa (yaq.j1 kq l0 t670 x7_1 x8_1 t679 t680 t682 x71_12=some (r1,r2))∧yaa (kq≤k1)∧yaa (Kd.R (Kd.int .i64) 2 wc w.heap.size (fun _=>True) u7 x7_1)∧yaa (Below w.heap.size w wc))
        case first =>
         have H:=HC13.out
         clear HC13
         by_cases c14:t679=0
         ·rw[if_pos c14] at H
          have c14b0:(t679 == 0)=true:=beq_iff_eq.mpr c14
          have c14b1:(t679 != 0)=false:=bne_eq_false_iff_eq.mpr c14
          clear c14
          (first|rw[c14b0]|(simp only[ybz,ycs];rw[c14b0])|skip)
          have H':=yaa.mk H
          clear H
          go_wp2
          go_meet
          case rel=>exact⟨_,(true),zF,H',⟨by have:=HK1.out;first|omega|exact Nat.le_refl _⟩,⟨zR HO_7.out⟩,⟨zB⟩⟩
         ·rw[if_neg c14] at H
          have c14b0:(t679 == 0)=false:=beq_eq_false_iff_ne.mpr c14
          have c14b1:(t679 != 0)=true:=bne_iff_ne.mpr c14
          (first|rw[c14b0]|(simp only[ybz,ycs];rw[c14b0])|skip)
          by_cases c15:x8_1 > 0
          ·rw[if_pos c15] at H
           have c15b0:decide (0<x8_1)=true:=decide_eq_true c15
           clear c15
           obtain⟨ji16,hji16⟩:∃ j_:Int,(wrap64 ((x7_1.length:Int)-1))=j_:=⟨_,rfl⟩
           replace H:(if 0≤(ji16) then (if (ji16)<(x7_1.length:Int) then (yaq.j1 k1 l0 t670 x7_1 x8_1 t679 t680 t682 ((rd x7_1 (ji16)) == t682)) else (none)) else (none))=some (r1,r2):=by first|(rw[hji16] at H;exact H)|(simp only[hji16] at H ⊢;exact H)
           have hji16w:(IntKind.i64.wrap ((x7_1.length:Int)-1))=ji16:=(ybz _).trans hji16
           by_cases c17:0≤(ji16)
           ·rw[if_pos c17] at H
            have c17b0:=decide_eq_true c17
            clear c17
            by_cases c18:(ji16)<(x7_1.length:Int)
            ·rw[if_pos c18] at H
             have c18b0:=decide_eq_true c18
             clear c18
             have H':=yaa.mk H
             clear H
             obtain⟨Ao19,co19,eo19⟩:=Kd.R_slice HO_7.out
             subst eo19
             have p683:0≤((ji16):Int):=of_decide_eq_true zA
             have q683:(ji16)<(x7_1.length:Int):=of_decide_eq_true zA
             obtain⟨ad683,e683,hx683_0⟩:=Kd.at_int (Kd.R_reads' HO_7.out).2.2 (ji16) p683 q683
             cases e683
             replace p683:=eq_true p683
             replace q683:=eq_true q683
             go_wp2
             go_meet
             case rel=>exact⟨_,(((rd x7_1 (ji16)) == t682)),(by first|rfl|(simp;done)|(simp only[← hji16] <;> (first|rfl|simp))|(simp [*];done)),H',⟨by have:=HK1.out;first|omega|exact Nat.le_refl _⟩,⟨zR HO_7.out⟩,⟨zB⟩⟩
            ·rw[if_neg c18] at H
             exact absurd H (by simp)
           ·rw[if_neg c17] at H
            exact absurd H (by simp)
          ·rw[if_neg c15] at H
           have c15b0:decide (0<x8_1)=false:=decide_eq_false c15
           clear c15
           have H':=yaa.mk H
           clear H
           go_wp2
           go_meet
           case rel=>exact⟨_,(false),zF,H',⟨by have:=HK1.out;first|omega|exact Nat.le_refl _⟩,⟨zR HO_7.out⟩,⟨zB⟩⟩
        case rest =>
         clear HC13
         try clear c1
         try clear p2
         try clear c3
         try clear c3b0
         try clear c3b1
         try clear c4
         try clear c4b0
         try clear p6
         try clear q6
         try clear hx6
         try clear c7
         try clear c7b0
         try clear c9
         try clear c9b0
         try clear c9b1
         try clear c11
         try clear c11b0
         try clear c11b1
         try clear c14
         try clear c14b0
         try clear c14b1
         try clear c15
         try clear c15b0
         try clear c17
         try clear c17b0
         try clear c18
         try clear c18b0
         try clear hx683_0
         try clear p2
         try clear p683
         try clear q683
         obtain⟨kq,x71_12,rfl,HA,HJ12,HO_7,HB⟩:=hcut
         cases kq with
         | zero=>exact absurd HA.out (by simp [yaq.j1])
         | succ kj12 =>
          have H:=HA.out
          clear HA
          simp only[yaq.j1] at H
          by_cases c20:x71_12=true
          ·subst c20
           have H1:(some (([]:List Int),5))=some (r1,r2):=by rw[if_pos rfl] at H;exact H
           clear H
           have H:=H1
           clear H1
           simp only[Option.some.injEq,Prod.mk.injEq] at H
           obtain⟨rfl,rfl⟩:=H
           go_wp2
           go_ret2
           exact⟨_,zG,zN,zB⟩
          ·replace c20:=Bool.eq_false_iff.mpr c20
           subst c20
           have H1:(if t679 > (IntKind.u64.wrap (wrap64 (4096-(x7_1.length:Int)))) then (some (([]:List Int),4)) else (yaq.l1 kj12 l0 t670 x7_1 x8_1 t679 t680 t682 0))=some (r1,r2):=by rw[if_neg (show ¬ (false=true) by decide)] at H;exact H
           clear H
           have H:=H1
           clear H1
           by_cases c21:t679 > (IntKind.u64.wrap (wrap64 (4096-(x7_1.length:Int))))
           ·rw[if_pos c21] at H
            have c21b0:decide ((IntKind.u64.wrap (wrap64 (4096-(x7_1.length:Int))))<t679)=true:=decide_eq_true c21
            clear c21
            simp only[Option.some.injEq,Prod.mk.injEq] at H
            obtain⟨rfl,rfl⟩:=H
            obtain⟨Ao22,co22,eo22⟩:=Kd.R_slice HO_7.out
            subst eo22
            go_wp2
            go_ret2
            exact⟨_,zG,zN,zB⟩
           ·rw[if_neg c21] at H
            have c21b0:decide ((IntKind.u64.wrap (wrap64 (4096-(x7_1.length:Int))))<t679)=false:=decide_eq_false c21
            clear c21
            have H':=yaa.mk H
            clear H
            obtain⟨Ao23,co23,eo23⟩:=Kd.R_slice HO_7.out
            subst eo23
            go_wp2
            go_loopg [7,16] kj12 (fun kq v7 v16 w'=>∃ (x7_3:List Int) (x16_3:Int),v16=.int .u64 x16_3∧yaa (yaq.l1 kq l0 t670 x7_3 x8_1 t679 t680 t682 x16_3=some (r1,r2))∧yaa (kq≤kj12)∧yaa (Kd.R (Kd.int .i64) 2 w' w.heap.size (fun _=>True) v7 x7_3)∧yaa (Below w.heap.size w w'))
            case atStart=>exact⟨(x7_1),(0),zF,H',⟨Nat.le_refl _⟩,⟨zR HO_7.out⟩,⟨zB⟩⟩
            case round =>
             clear H'
             try clear c1
             try clear c2
             try clear p2
             try clear c3
             try clear c3b0
             try clear c3b1
             try clear c4
             try clear c4b0
             try clear p6
             try clear q6
             try clear hx6
             try clear c7
             try clear c7b0
             try clear c9
             try clear c9b0
             try clear c9b1
             try clear c11
             try clear c11b0
             try clear c11b1
             try clear c14
             try clear c14b0
             try clear c14b1
             try clear c15
             try clear c15b0
             try clear c17
             try clear c17b0
             try clear c18
             try clear c18b0
             try clear c20
             try clear c21
             try clear c21b0
             try clear hx683_0
             try clear p2
             try clear p6
             try clear p683
             try clear q6
             try clear q683
             obtain⟨x7_3,x16_3,rfl,HA,HK3,HO_7,HB⟩:=hrel
             cases gk with
             | zero=>exact absurd HA.out (by simp [yaq.l1])
             | succ k3 =>
              have H:=HA.out
              clear HA
              simp only[yaq.l1] at H
              by_cases c24:x16_3<t679
              ·rw[if_pos c24] at H
               have c24b0:=decide_eq_true c24
               clear c24
               by_cases c25:x7_3.length<17592186044416
               ·rw[if_pos c25] at H
                have LMc25:=yaa.mk c25
                clear c25
                obtain⟨y684,hy684⟩:∃ y_:List Int,y_=(x7_3++[t682]):=⟨_,rfl⟩
                replace H:(yaq.l1 k3 l0 t670 y684 x8_1 t679 t680 t682 (IntKind.u64.wrap (x16_3+1)))=some (r1,r2):=by first|(rw[hy684];with_reducible exact H)|(have H2_:=(Option.bind_some _ _).symm.trans H;rw[hy684];with_reducible exact H2_)|(have H2_:=(Option.bind_some _ _).symm.trans H;with_reducible exact H2_)|with_reducible exact H|(rw[hy684];exact H)|exact H
                have Ny684:=yaa.mk hy684
                clear hy684
                have H':=yaa.mk H
                clear H
                go_wp2_with (first|((with_reducible refine ybm (b:=.append) (xs:=#[.tmp 83,.tmp 85]) rfl ?_);(try (refine ygw (by rfl) ?_;dsimp only));at_builtin;refine Kd.R_append (Kd.int .i64) (w0:=w) w.heap.size rfl (.tmp 83) (.tmp 85) 94 2 (.int .i64 0) 8 rfl Tryz.underlying94 yjs rfl (by decide) (by omega) u7 x7_3 t682 [.int .i64 t682] (fun _=>True) (fun _=>False) rfl rfl ?aP (fun _ hk=>hk.elim) ?aF ?aO ?aB ?aS ?aL ?_;(case aP=>exact rfl);(case aB=>exact zB);(case aF=>exact fun _ _=>trivial);(case aO=>exact(zR HO_7.out));(case aS=>exact(yaf zB));(case aL=>have:=LMc25.out;omega);intro v685 w26 ho hb hg hat;rw[← Ny684.out] at ho;have n0_:=yaa.mk (hb);have n1_:=yaa.mk (ho);clear HB;clear HO_7;have HB:=n0_;have HO686:=n1_;clear n0_ n1_;clear ho hb hg hat))
                go_roundg k3
                case measure=>have:=HK1.out;have:=HJ12.out;have:=HK3.out;omega
                case rel=>exact⟨(y684),(IntKind.u64.wrap (x16_3+1)),zF,H',⟨by have:=HK1.out;have:=HJ12.out;have:=HK3.out;omega⟩,⟨zR HO686.out⟩,⟨zB⟩⟩
               ·rw[if_neg c25] at H
                exact absurd H (by simp)
              ·rw[if_neg c24] at H
               have c24b0:=decide_eq_false c24
               clear c24
               have H':=yaa.mk H
               clear H
               go_wp2
               go_roundg k3
               case measure=>have:=HK1.out;have:=HJ12.out;have:=HK3.out;omega
               case rel=>exact⟨(t680),(x7_3),(IntKind.u64.wrap (x8_1+1)),zF,zF,H',⟨by have:=HK1.out;have:=HJ12.out;have:=HK3.out;omega⟩,⟨zR HO_7.out⟩,⟨zB⟩⟩
       ·rw[if_neg c11] at H
        have c11b0:(t681 == 0)=false:=beq_eq_false_iff_ne.mpr c11
        have c11b1:(t681 != 0)=true:=bne_iff_ne.mpr c11
        simp only[Option.some.injEq,Prod.mk.injEq] at H
        obtain⟨rfl,rfl⟩:=H
        go_wp2_with (first|((with_reducible refine yad (f:=44) rfl ?_);refine yak (some 37) rfl rfl Tryz.func44 (by kernel_rfl) rfl #[.slice A0 l0.length c0,.int .i64 x5_1] rfl zE ?_;(with_reducible refine(yac.calls k1 _ _ l0 x5_1 t676 t677 t678 _ ?side1 ?side2 A8.out).mono ?_);(case side1=>exact zC (Kd.C_below HR0.out HB.out));(case side2=>exact HC0.out);rintro e w' ⟨rfl,⟨nd,rfl⟩⟩;refine⟨_,rfl,?_⟩)|((with_reducible refine yad (f:=44) rfl ?_);refine yak (some 47) rfl rfl Tryz.func44 (by kernel_rfl) rfl #[.slice A0 l0.length c0,.int .i64 t677] rfl zE ?_;(with_reducible refine(yac.calls k1 _ _ l0 t677 t679 t680 t681 _ ?side1 ?side2 A10.out).mono ?_);(case side1=>repeat (first|exact(Kd.C_below HR0.out zB)|(with_reducible refine Kd.C_alloc ?_ _)|(with_reducible refine Kd.C_drewN ?_ _)|(with_reducible refine Kd.C_drew ?_)));(case side2=>exact HC0.out);rintro e w' ⟨rfl,⟨nd,rfl⟩⟩;refine⟨_,rfl,?_⟩))
        go_ret2
        exact⟨_,zG,zN,zB⟩
      ·rw[if_neg c9] at H
       have c9b0:(t678 == 0)=false:=beq_eq_false_iff_ne.mpr c9
       have c9b1:(t678 != 0)=true:=bne_iff_ne.mpr c9
       simp only[Option.some.injEq,Prod.mk.injEq] at H
       obtain⟨rfl,rfl⟩:=H
       go_wp2_with (first|((with_reducible refine yad (f:=44) rfl ?_);refine yak (some 37) rfl rfl Tryz.func44 (by kernel_rfl) rfl #[.slice A0 l0.length c0,.int .i64 x5_1] rfl zE ?_;(with_reducible refine(yac.calls k1 _ _ l0 x5_1 t676 t677 t678 _ ?side1 ?side2 A8.out).mono ?_);(case side1=>exact zC (Kd.C_below HR0.out HB.out));(case side2=>exact HC0.out);rintro e w' ⟨rfl,⟨nd,rfl⟩⟩;refine⟨_,rfl,?_⟩))
       go_ret2
       exact⟨_,zG,zN,zB⟩
     ·rw[if_neg c7] at H
      have c7b0:=decide_eq_false c7
      clear c7
      by_cases c27:x5_1<(l0.length:Int)
      ·rw[if_pos c27] at H
       have c27b0:=decide_eq_true c27
       clear c27
       simp only[Option.some.injEq,Prod.mk.injEq] at H
       obtain⟨rfl,rfl⟩:=H
       go_wp2
       go_ret2
       exact⟨_,zG,zN,zB⟩
      ·rw[if_neg c27] at H
       have c27b0:=decide_eq_false c27
       clear c27
       simp only[Option.some.injEq,Prod.mk.injEq] at H
       obtain⟨rfl,rfl⟩:=H
       go_wp2
       go_ret2
       exact⟨_,zG,zR HO_7.out,zB⟩
 ·rw[if_neg c3] at H
  have c3b0:(t672 == 0)=false:=beq_eq_false_iff_ne.mpr c3
  have c3b1:(t672 != 0)=true:=bne_iff_ne.mpr c3
  simp only[Option.some.injEq,Prod.mk.injEq] at H
  obtain⟨rfl,rfl⟩:=H
  go_enter Tryz.func76,Tryz.ntmps76
  go_wp2_with (first|((with_reducible refine yad (f:=44) rfl ?_);refine yak (some 19) rfl rfl Tryz.func44 (by kernel_rfl) rfl #[.slice A0 l0.length c0,.int .i64 0] rfl zE ?_;(with_reducible refine(yac.calls k _ _ l0 0 t670 t671 t672 _ ?side1 ?side2 A2.out).mono ?_);(case side1=>exact zC HR0.out);(case side2=>exact HC0.out);rintro e w' ⟨rfl,⟨nd,rfl⟩⟩;refine⟨_,rfl,?_⟩))
  go_ret2
  exact⟨_,zG,zN,zB⟩
end Go.Proofs.YteeikgjjgfdjgaaGreat.PK
end
section
namespace Go.Proofs.YteeikgjjgfdjgaaGreat.PK
open Go.RowKit YteeikgjjgfdjgaaGreatW.PrintWords YteeikgjjgfdjgaaGreatW.PrintLast YteeikgjjgfdjgaaGreatW.PrintMore
attribute [local go_sem] yce ycf ycu ycv yb8 yb7 ycm yco
set_option linter.unusedVariables false
set_option linter.unusedSimpArgs false
mutual
def yax.l0:Nat→Int→List Int→List Int→Bool→Int→Option (List Int×Int)
 | 0,_,_,_,_,_=>none
 | k+1,x0,x1,x6,x7,x8=>if x8<(x1.length:Int) then (if 0≤x8 then (if (wrap64 (IntKind.u64.wrap ((IntKind.u64.wrap (x0))+(rd x1 x8))))<x0 then (yax.j1 k x0 x1 x6 x7 x8 (wrap64 (IntKind.u64.wrap ((IntKind.u64.wrap (x0))+(rd x1 x8)))) true) else (yax.j1 k x0 x1 x6 x7 x8 (wrap64 (IntKind.u64.wrap ((IntKind.u64.wrap (x0))+(rd x1 x8)))) ((IntKind.u64.wrap ((IntKind.u64.wrap (wrap64 (IntKind.u64.wrap ((IntKind.u64.wrap (x0))+(rd x1 x8)))))-(IntKind.u64.wrap (x0)))) != (rd x1 x8)))) else (none)) else (if x7=true then (some (x6,0)) else (some (([]:List Int),5)))
def yax.j1:Nat→Int→List Int→List Int→Bool→Int→Int→Bool→Option (List Int×Int)
 | 0,_,_,_,_,_,_,_=>none
 | k+1,x0,x1,x6,x7,x8,x9,x39=>if x39=true then (some (([]:List Int),5)) else (if 0≤x8 then (if x8<(x1.length:Int) then (if (rd x1 x8)=0 then (if x6.length<17592186044416 then (yax.l0 k x0 x1 (x6++[x9]) true (wrap64 (x8+1))) else (none)) else (if x6.length<17592186044416 then (yax.l0 k x0 x1 (x6++[x9]) x7 (wrap64 (x8+1))) else (none))) else (none)) else (none))
end
def yax.f (k:Nat) (a0:Int) (l1:List Int):Option (List Int×Int):=yax.l0 k a0 l1 (([]:List Int)) false 0
theorem yax.calls (k:Nat) (a0:Int) (A1:Option Addr) (c1:Nat) (l1:List Int) (r1:List Int) (r2:Int) (w:World) (hr1:Kd.C (Kd.int .u64) w A1 l1.length l1) (hc1:l1.length≤c1) (h:yax.f k a0 l1=some (r1,r2)) :
  Calls Tryz.prog 116 #[.int .i64 a0,.slice A1 l1.length c1] w fun e w'=>∃ v0_:Value,e=.returned (.tuple #[v0_,.int .i64 r2])∧Kd.R (Kd.int .i64) 2 w' w.heap.size (fun _=>True) v0_ r1∧Below w.heap.size w w':=by
 have HR1:=yaa.mk hr1
 have HC1:=yaa.mk hc1
 clear hr1 hc1
 have HB:=yaa.mk (Below.refl w.heap.size w)
 have H:(yax.l0 k a0 l1 (([]:List Int)) false 0)=some (r1,r2):=h
 clear h
 obtain⟨y687,hy687⟩:∃ y_:List Int,y_=(([]:List Int)):=⟨_,rfl⟩
 replace H:(yax.l0 k a0 l1 y687 false 0)=some (r1,r2):=by first|(rw[hy687];with_reducible exact H)|(have H2_:=(Option.bind_some _ _).symm.trans H;rw[hy687];with_reducible exact H2_)|(have H2_:=(Option.bind_some _ _).symm.trans H;with_reducible exact H2_)|with_reducible exact H|(rw[hy687];exact H)|exact H
 have Ny687:=yaa.mk hy687
 clear hy687
 have H':=yaa.mk H
 clear H
 go_enter Tryz.func116,Tryz.ntmps116
 go_wp2_with (first|((with_reducible refine yb1 (N:=10) rfl ?_);refine Kd.R_lit (Kd.int .i64) _ 2 ?hg (N:=10) ?hd (xs:=([]:List Int)) (inner:=[]) (ok:=fun _=>True) (okp:=fun _=>True) ?hr ?hp (fun _ hk=>hk) trivial (Below.refl _ _) (Nat.le_refl _) (by simp) ?_;(case hd=>rfl);(case hg=>rfl);(case hr=>first|(go_simp;done)|(go_simp;rfl));(case hp=>exact(Reps.none _ _));intro v688 w3 ho4 hb hg_ hnew_;clear hg_ hnew_;(first|rw[← Ny687.out] at ho4|(simp only[Int.reduceToNat] at ho4;rw[← Ny687.out] at ho4));have n0_:=yaa.mk (Kd.R_lower ho4 (yaf zB));have n1_:=yaa.mk (yai zB hb);clear HB;have HO689:=n0_;have HB:=n1_;clear n0_ n1_;clear hb ho4))
 go_loopg [6,7,8] k (fun kq v6 v7 v8 w'=>∃ (x6_1:List Int) (x7_1:Bool) (x8_1:Int),v7=.bool x7_1∧v8=.int .i64 x8_1∧yaa (yax.l0 kq a0 l1 x6_1 x7_1 x8_1=some (r1,r2))∧yaa (kq≤k)∧yaa (Kd.R (Kd.int .i64) 2 w' w.heap.size (fun _=>True) v6 x6_1)∧yaa (Below w.heap.size w w'))
 case atStart=>exact⟨(y687),(false),(0),zF,zF,H',⟨Nat.le_refl _⟩,⟨zR HO689.out⟩,⟨zB⟩⟩
 case round =>
  clear H'
  try clear c1
  try clear p2
  obtain⟨x6_1,x7_1,x8_1,rfl,rfl,HA,HK1,HO_6,HB⟩:=hrel
  cases gk with
  | zero=>exact absurd HA.out (by simp [yax.l0])
  | succ k1 =>
   have H:=HA.out
   clear HA
   simp only[yax.l0] at H
   by_cases c5:x8_1<(l1.length:Int)
   ·rw[if_pos c5] at H
    have c5b0:=decide_eq_true c5
    clear c5
    by_cases c6:0≤x8_1
    ·rw[if_pos c6] at H
     have c6b0:=decide_eq_true c6
     clear c6
     have HC7:=yaa.mk H
     clear H
     have p690:0≤(x8_1:Int):=of_decide_eq_true zA
     have q690:x8_1<(l1.length:Int):=of_decide_eq_true zA
     obtain⟨ad690,e690,hx690_0⟩:=Kd.at_int HR1.out x8_1 p690 q690
     cases e690
     replace hx690_0:=(HB.out.cell (World.block_lt_of_cell? w _ hx690_0)).trans hx690_0
     replace p690:=eq_true p690
     replace q690:=eq_true q690
     go_upto_region 7 with (fail)
     go_cut [39] (fun v39 wc=>∃ (kq:Nat) (x39_6:Bool),v39=.bool x39_6∧yaa (yax.j1 kq a0 l1 x6_1 x7_1 x8_1 (wrap64 (IntKind.u64.wrap ((IntKind.u64.wrap (a0))+(rd l1 x8_1)))) x39_6=some (r1,r2))∧yaa (kq≤k1)∧yaa (Kd.R (Kd.int .i64) 2 wc w.heap.size (fun _=>True) u6 x6_1)∧yaa (Below w.heap.size w wc))
     case first =>
      have H:=HC7.out
      clear HC7
      by_cases c8:(wrap64 (IntKind.u64.wrap ((IntKind.u64.wrap (a0))+(rd l1 x8_1))))<a0
      ·rw[if_pos c8] at H
       have c8b0:=decide_eq_true c8
       clear c8
       (first|rw[c8b0]|(simp only[ybz,ycs];rw[c8b0])|skip)
       have H':=yaa.mk H
       clear H
       go_wp2
       go_meet
       case rel=>exact⟨_,(true),zF,H',⟨by have:=HK1.out;first|omega|exact Nat.le_refl _⟩,⟨zR HO_6.out⟩,⟨zB⟩⟩
      ·rw[if_neg c8] at H
       have c8b0:=decide_eq_false c8
       clear c8
       (first|rw[c8b0]|(simp only[ybz,ycs];rw[c8b0])|skip)
       have H':=yaa.mk H
       clear H
       have p691:0≤(x8_1:Int):=of_decide_eq_true zA
       have q691:x8_1<(l1.length:Int):=of_decide_eq_true zA
       obtain⟨ad691,e691,hx691_0⟩:=Kd.at_int HR1.out x8_1 p691 q691
       obtain rfl:ad690=ad691:=(by injection e691)
       replace hx691_0:=(HB.out.cell (World.block_lt_of_cell? w _ hx691_0)).trans hx691_0
       replace p691:=eq_true p691
       replace q691:=eq_true q691
       go_wp2
       go_meet
       case rel=>exact⟨_,(((IntKind.u64.wrap ((IntKind.u64.wrap (wrap64 (IntKind.u64.wrap ((IntKind.u64.wrap (a0))+(rd l1 x8_1)))))-(IntKind.u64.wrap (a0)))) != (rd l1 x8_1))),zF,H',⟨by have:=HK1.out;first|omega|exact Nat.le_refl _⟩,⟨zR HO_6.out⟩,⟨zB⟩⟩
     case rest =>
      clear HC7
      try clear c1
      try clear p2
      try clear c5
      try clear c5b0
      try clear c6
      try clear c6b0
      try clear p6
      try clear q6
      try clear hx6
      try clear c8
      try clear c8b0
      try clear hx690_0
      try clear hx691_0
      try clear p2
      try clear p690
      try clear p691
      try clear q690
      try clear q691
      obtain⟨kq,x39_6,rfl,HA,HJ6,HO_6,HB⟩:=hcut
      cases kq with
      | zero=>exact absurd HA.out (by simp [yax.j1])
      | succ kj6 =>
       have H:=HA.out
       clear HA
       simp only[yax.j1] at H
       by_cases c9:x39_6=true
       ·subst c9
        have H1:(some (([]:List Int),5))=some (r1,r2):=by rw[if_pos rfl] at H;exact H
        clear H
        have H:=H1
        clear H1
        simp only[Option.some.injEq,Prod.mk.injEq] at H
        obtain⟨rfl,rfl⟩:=H
        go_wp2
        go_ret2
        exact⟨_,zG,zN,zB⟩
       ·replace c9:=Bool.eq_false_iff.mpr c9
        subst c9
        have H1:(if 0≤x8_1 then (if x8_1<(l1.length:Int) then (if (rd l1 x8_1)=0 then (if x6_1.length<17592186044416 then (yax.l0 kj6 a0 l1 (x6_1++[(wrap64 (IntKind.u64.wrap ((IntKind.u64.wrap (a0))+(rd l1 x8_1))))]) true (wrap64 (x8_1+1))) else (none)) else (if x6_1.length<17592186044416 then (yax.l0 kj6 a0 l1 (x6_1++[(wrap64 (IntKind.u64.wrap ((IntKind.u64.wrap (a0))+(rd l1 x8_1))))]) x7_1 (wrap64 (x8_1+1))) else (none))) else (none)) else (none))=some (r1,r2):=by rw[if_neg (show ¬ (false=true) by decide)] at H;exact H
        clear H
        have H:=H1
        clear H1
        by_cases c10:0≤x8_1
        ·rw[if_pos c10] at H
         have c10b0:=decide_eq_true c10
         clear c10
         by_cases c11:x8_1<(l1.length:Int)
         ·rw[if_pos c11] at H
          have c11b0:=decide_eq_true c11
          clear c11
          by_cases c12:(rd l1 x8_1)=0
          ·rw[if_pos c12] at H
           have c12b0:((rd l1 x8_1) == 0)=true:=beq_iff_eq.mpr c12
           have c12b1:((rd l1 x8_1) != 0)=false:=bne_eq_false_iff_eq.mpr c12
           clear c12
           by_cases c13:x6_1.length<17592186044416
           ·rw[if_pos c13] at H
            have LMc13:=yaa.mk c13
            clear c13
            obtain⟨y693,hy693⟩:∃ y_:List Int,y_=(x6_1++[(wrap64 (IntKind.u64.wrap ((IntKind.u64.wrap (a0))+(rd l1 x8_1))))]):=⟨_,rfl⟩
            replace H:(yax.l0 kj6 a0 l1 y693 true (wrap64 (x8_1+1)))=some (r1,r2):=by first|(rw[hy693];with_reducible exact H)|(have H2_:=(Option.bind_some _ _).symm.trans H;rw[hy693];with_reducible exact H2_)|(have H2_:=(Option.bind_some _ _).symm.trans H;with_reducible exact H2_)|with_reducible exact H|(rw[hy693];exact H)|exact H
            have Ny693:=yaa.mk hy693
            clear hy693
            have H':=yaa.mk H
            clear H
            have p692:0≤(x8_1:Int):=of_decide_eq_true zA
            have q692:x8_1<(l1.length:Int):=of_decide_eq_true zA
            obtain⟨ad692,e692,hx692_0⟩:=Kd.at_int HR1.out x8_1 p692 q692
            obtain rfl:ad690=ad692:=(by injection e692)
            replace hx692_0:=(HB.out.cell (World.block_lt_of_cell? w _ hx692_0)).trans hx692_0
            replace p692:=eq_true p692
            replace q692:=eq_true q692
            go_wp2_with (first|((with_reducible refine ybm (b:=.append) (xs:=#[.tmp 45,.tmp 47]) rfl ?_);at_builtin;refine Kd.R_append (Kd.int .i64) (w0:=w) w.heap.size rfl (.tmp 45) (.tmp 47) 94 2 (.int .i64 0) 8 rfl Tryz.underlying94 yjs rfl (by decide) (by omega) u6 x6_1 (wrap64 (IntKind.u64.wrap ((IntKind.u64.wrap (a0))+(rd l1 x8_1)))) [.int .i64 (wrap64 (IntKind.u64.wrap ((IntKind.u64.wrap (a0))+(rd l1 x8_1))))] (fun _=>True) (fun _=>False) rfl rfl ?aP (fun _ hk=>hk.elim) ?aF ?aO ?aB ?aS ?aL ?_;(case aP=>exact rfl);(case aB=>exact zB);(case aF=>exact fun _ _=>trivial);(case aO=>exact(zR HO_6.out));(case aS=>exact(yaf zB));(case aL=>have:=LMc13.out;omega);intro v694 w14 ho hb hg hat;rw[← Ny693.out] at ho;have n0_:=yaa.mk (hb);have n1_:=yaa.mk (ho);clear HB;clear HO_6;have HB:=n0_;have HO695:=n1_;clear n0_ n1_;clear ho hb hg hat))
            go_roundg kj6
            case measure=>have:=HK1.out;have:=HJ6.out;omega
            case rel=>exact⟨(y693),(true),(wrap64 (x8_1+1)),zF,zF,H',⟨by have:=HK1.out;have:=HJ6.out;omega⟩,⟨zR HO695.out⟩,⟨zB⟩⟩
           ·rw[if_neg c13] at H
            exact absurd H (by simp)
          ·rw[if_neg c12] at H
           have c12b0:((rd l1 x8_1) == 0)=false:=beq_eq_false_iff_ne.mpr c12
           have c12b1:((rd l1 x8_1) != 0)=true:=bne_iff_ne.mpr c12
           by_cases c15:x6_1.length<17592186044416
           ·rw[if_pos c15] at H
            have LMc15:=yaa.mk c15
            clear c15
            obtain⟨y696,hy696⟩:∃ y_:List Int,y_=(x6_1++[(wrap64 (IntKind.u64.wrap ((IntKind.u64.wrap (a0))+(rd l1 x8_1))))]):=⟨_,rfl⟩
            replace H:(yax.l0 kj6 a0 l1 y696 x7_1 (wrap64 (x8_1+1)))=some (r1,r2):=by first|(rw[hy696];with_reducible exact H)|(have H2_:=(Option.bind_some _ _).symm.trans H;rw[hy696];with_reducible exact H2_)|(have H2_:=(Option.bind_some _ _).symm.trans H;with_reducible exact H2_)|with_reducible exact H|(rw[hy696];exact H)|exact H
            have Ny696:=yaa.mk hy696
            clear hy696
            have H':=yaa.mk H
            clear H
            have p692:0≤(x8_1:Int):=of_decide_eq_true zA
            have q692:x8_1<(l1.length:Int):=of_decide_eq_true zA
            obtain⟨ad692,e692,hx692_0⟩:=Kd.at_int HR1.out x8_1 p692 q692
            obtain rfl:ad690=ad692:=(by injection e692)
            replace hx692_0:=(HB.out.cell (World.block_lt_of_cell? w _ hx692_0)).trans hx692_0
            replace p692:=eq_true p692
            replace q692:=eq_true q692
            go_wp2_with (first|((with_reducible refine ybm (b:=.append) (xs:=#[.tmp 45,.tmp 47]) rfl ?_);at_builtin;refine Kd.R_append (Kd.int .i64) (w0:=w) w.heap.size rfl (.tmp 45) (.tmp 47) 94 2 (.int .i64 0) 8 rfl Tryz.underlying94 yjs rfl (by decide) (by omega) u6 x6_1 (wrap64 (IntKind.u64.wrap ((IntKind.u64.wrap (a0))+(rd l1 x8_1)))) [.int .i64 (wrap64 (IntKind.u64.wrap ((IntKind.u64.wrap (a0))+(rd l1 x8_1))))] (fun _=>True) (fun _=>False) rfl rfl ?aP (fun _ hk=>hk.elim) ?aF ?aO ?aB ?aS ?aL ?_;(case aP=>exact rfl);(case aB=>exact zB);(case aF=>exact fun _ _=>trivial);(case aO=>exact(zR HO_6.out));(case aS=>exact(yaf zB));(case aL=>have:=LMc15.out;omega);intro v697 w16 ho hb hg hat;rw[← Ny696.out] at ho;have n0_:=yaa.mk (hb);have n1_:=yaa.mk (ho);clear HB;clear HO_6;have HB:=n0_;have HO698:=n1_;clear n0_ n1_;clear ho hb hg hat))
            go_roundg kj6
            case measure=>have:=HK1.out;have:=HJ6.out;omega
            case rel=>exact⟨(y696),(x7_1),(wrap64 (x8_1+1)),zF,zF,H',⟨by have:=HK1.out;have:=HJ6.out;omega⟩,⟨zR HO698.out⟩,⟨zB⟩⟩
           ·rw[if_neg c15] at H
            exact absurd H (by simp)
         ·rw[if_neg c11] at H
          exact absurd H (by simp)
        ·rw[if_neg c10] at H
         exact absurd H (by simp)
    ·rw[if_neg c6] at H
     exact absurd H (by simp)
   ·rw[if_neg c5] at H
    have c5b0:=decide_eq_false c5
    clear c5
    by_cases c17:x7_1=true
    ·subst c17
     have H1:(some (x6_1,0))=some (r1,r2):=by rw[if_pos rfl] at H;exact H
     clear H
     have H:=H1
     clear H1
     simp only[Option.some.injEq,Prod.mk.injEq] at H
     obtain⟨rfl,rfl⟩:=H
     go_wp2
     go_ret2
     exact⟨_,zG,zR HO_6.out,zB⟩
    ·replace c17:=Bool.eq_false_iff.mpr c17
     subst c17
     have H1:(some (([]:List Int),5))=some (r1,r2):=by rw[if_neg (show ¬ (false=true) by decide)] at H;exact H
     clear H
     have H:=H1
     clear H1
     simp only[Option.some.injEq,Prod.mk.injEq] at H
     obtain⟨rfl,rfl⟩:=H
     go_wp2
     go_ret2
     exact⟨_,zG,zN,zB⟩
def ygd.f (k:Nat) (l0:List Int):Option (List Int×Int):=(yac.f k l0 0).bind fun bt699=>(if bt699.2.2=0 then (if bt699.1 > 4096 then (some (([]:List Int),4)) else (if bt699.1=0 then (if bt699.2.1<(l0.length:Int) then (some (([]:List Int),3)) else (some (([]:List Int),0))) else ((yac.f k l0 bt699.2.1).bind fun bt702=>(if bt702.2.2=0 then (if bt702.2.1≥(l0.length:Int) then (some (([]:List Int),2)) else (if 0≤bt702.2.1 then (if bt702.2.1<(l0.length:Int) then (if (wrap64 (rd l0 bt702.2.1)) > 64 then (some (([]:List Int),5)) else ((yag.f k l0 (wrap64 (bt702.2.1+1)) (l0.length:Int)).bind fun t706=>((yah.f k t706 (wrap64 (rd l0 bt702.2.1)) (wrap64 (bt699.1))).bind fun bt709=>(if bt709.2=0 then ((yal.f k bt709.1).bind fun t713=>(if t713=(wrap64 (rd l0 bt702.2.1)) then ((yc1.f bt702.1).bind fun t714=>((yax.f k t714 bt709.1).bind fun bt715=>(some (bt715.1,bt715.2)))) else (some (([]:List Int),5)))) else (some (([]:List Int),bt709.2)))))) else (none)) else (none))) else (some (([]:List Int),bt702.2.2)))))) else (some (([]:List Int),bt699.2.2)))
theorem ygd.calls (k:Nat) (A0:Option Addr) (c0:Nat) (l0:List Int) (r1:List Int) (r2:Int) (w:World) (hr0:Kd.C (Kd.int .u8) w A0 l0.length l0) (hc0:l0.length≤c0) (h:ygd.f k l0=some (r1,r2)) :
  Calls Tryz.prog 77 #[.slice A0 l0.length c0] w fun e w'=>∃ v0_:Value,e=.returned (.tuple #[v0_,.int .i64 r2])∧Kd.R (Kd.int .i64) 2 w' w.heap.size (fun _=>True) v0_ r1∧Below w.heap.size w w':=by
 have HR0:=yaa.mk hr0
 have HC0:=yaa.mk hc0
 clear hr0 hc0
 have HB:=yaa.mk (Below.refl w.heap.size w)
 have H:((yac.f k l0 0).bind fun bt699=>(if bt699.2.2=0 then (if bt699.1 > 4096 then (some (([]:List Int),4)) else (if bt699.1=0 then (if bt699.2.1<(l0.length:Int) then (some (([]:List Int),3)) else (some (([]:List Int),0))) else ((yac.f k l0 bt699.2.1).bind fun bt702=>(if bt702.2.2=0 then (if bt702.2.1≥(l0.length:Int) then (some (([]:List Int),2)) else (if 0≤bt702.2.1 then (if bt702.2.1<(l0.length:Int) then (if (wrap64 (rd l0 bt702.2.1)) > 64 then (some (([]:List Int),5)) else ((yag.f k l0 (wrap64 (bt702.2.1+1)) (l0.length:Int)).bind fun t706=>((yah.f k t706 (wrap64 (rd l0 bt702.2.1)) (wrap64 (bt699.1))).bind fun bt709=>(if bt709.2=0 then ((yal.f k bt709.1).bind fun t713=>(if t713=(wrap64 (rd l0 bt702.2.1)) then ((yc1.f bt702.1).bind fun t714=>((yax.f k t714 bt709.1).bind fun bt715=>(some (bt715.1,bt715.2)))) else (some (([]:List Int),5)))) else (some (([]:List Int),bt709.2)))))) else (none)) else (none))) else (some (([]:List Int),bt702.2.2)))))) else (some (([]:List Int),bt699.2.2))))=some (r1,r2):=h
 clear h
 replace H:=Option.bind_eq_some_iff.mp H
 obtain⟨⟨t699,t700,t701⟩,A20,H⟩:=H
 try dsimp only at H
 have A2:=yaa.mk A20
 clear A20
 by_cases c3:t701=0
 ·rw[if_pos c3] at H
  have c3b0:(t701 == 0)=true:=beq_iff_eq.mpr c3
  have c3b1:(t701 != 0)=false:=bne_eq_false_iff_eq.mpr c3
  clear c3
  by_cases c4:t699 > 4096
  ·rw[if_pos c4] at H
   have c4b0:decide (4096<t699)=true:=decide_eq_true c4
   clear c4
   simp only[Option.some.injEq,Prod.mk.injEq] at H
   obtain⟨rfl,rfl⟩:=H
   go_enter Tryz.func77,Tryz.ntmps77
   go_wp2_with (first|((with_reducible refine yad (f:=44) rfl ?_);refine yak (some 15) rfl rfl Tryz.func44 (by kernel_rfl) rfl #[.slice A0 l0.length c0,.int .i64 0] rfl zE ?_;(with_reducible refine(yac.calls k _ _ l0 0 t699 t700 t701 _ ?side1 ?side2 A2.out).mono ?_);(case side1=>exact zC HR0.out);(case side2=>exact HC0.out);rintro e w' ⟨rfl,⟨nd,rfl⟩⟩;refine⟨_,rfl,?_⟩))
   go_ret2
   exact⟨_,zG,zN,zB⟩
  ·rw[if_neg c4] at H
   have c4b0:decide (4096<t699)=false:=decide_eq_false c4
   clear c4
   by_cases c5:t699=0
   ·rw[if_pos c5] at H
    have c5b0:(t699 == 0)=true:=beq_iff_eq.mpr c5
    have c5b1:(t699 != 0)=false:=bne_eq_false_iff_eq.mpr c5
    clear c5
    by_cases c6:t700<(l0.length:Int)
    ·rw[if_pos c6] at H
     have c6b0:=decide_eq_true c6
     clear c6
     simp only[Option.some.injEq,Prod.mk.injEq] at H
     obtain⟨rfl,rfl⟩:=H
     go_enter Tryz.func77,Tryz.ntmps77
     go_wp2_with (first|((with_reducible refine yad (f:=44) rfl ?_);refine yak (some 15) rfl rfl Tryz.func44 (by kernel_rfl) rfl #[.slice A0 l0.length c0,.int .i64 0] rfl zE ?_;(with_reducible refine(yac.calls k _ _ l0 0 t699 t700 t701 _ ?side1 ?side2 A2.out).mono ?_);(case side1=>exact zC HR0.out);(case side2=>exact HC0.out);rintro e w' ⟨rfl,⟨nd,rfl⟩⟩;refine⟨_,rfl,?_⟩))
     go_ret2
     exact⟨_,zG,zN,zB⟩
    ·rw[if_neg c6] at H
     have c6b0:=decide_eq_false c6
     clear c6
     simp only[Option.some.injEq,Prod.mk.injEq] at H
     obtain⟨rfl,rfl⟩:=H
     go_enter Tryz.func77,Tryz.ntmps77
     go_wp2_with (first|((with_reducible refine yad (f:=44) rfl ?_);refine yak (some 15) rfl rfl Tryz.func44 (by kernel_rfl) rfl #[.slice A0 l0.length c0,.int .i64 0] rfl zE ?_;(with_reducible refine(yac.calls k _ _ l0 0 t699 t700 t701 _ ?side1 ?side2 A2.out).mono ?_);(case side1=>exact zC HR0.out);(case side2=>exact HC0.out);rintro e w' ⟨rfl,⟨nd,rfl⟩⟩;refine⟨_,rfl,?_⟩))
     go_ret2
     exact⟨_,zG,zN,zB⟩
   ·rw[if_neg c5] at H
    have c5b0:(t699 == 0)=false:=beq_eq_false_iff_ne.mpr c5
    have c5b1:(t699 != 0)=true:=bne_iff_ne.mpr c5
    replace H:=Option.bind_eq_some_iff.mp H
    obtain⟨⟨t702,t703,t704⟩,A70,H⟩:=H
    try dsimp only at H
    have A7:=yaa.mk A70
    clear A70
    by_cases c8:t704=0
    ·rw[if_pos c8] at H
     have c8b0:(t704 == 0)=true:=beq_iff_eq.mpr c8
     have c8b1:(t704 != 0)=false:=bne_eq_false_iff_eq.mpr c8
     clear c8
     by_cases c9:t703≥(l0.length:Int)
     ·rw[if_pos c9] at H
      have c9b0:decide ((l0.length:Int)≤t703)=true:=decide_eq_true c9
      clear c9
      simp only[Option.some.injEq,Prod.mk.injEq] at H
      obtain⟨rfl,rfl⟩:=H
      go_enter Tryz.func77,Tryz.ntmps77
      go_wp2_with (first|((with_reducible refine yad (f:=44) rfl ?_);refine yak (some 15) rfl rfl Tryz.func44 (by kernel_rfl) rfl #[.slice A0 l0.length c0,.int .i64 0] rfl zE ?_;(with_reducible refine(yac.calls k _ _ l0 0 t699 t700 t701 _ ?side1 ?side2 A2.out).mono ?_);(case side1=>exact zC HR0.out);(case side2=>exact HC0.out);rintro e w' ⟨rfl,⟨nd,rfl⟩⟩;refine⟨_,rfl,?_⟩)|((with_reducible refine yad (f:=44) rfl ?_);refine yak (some 33) rfl rfl Tryz.func44 (by kernel_rfl) rfl #[.slice A0 l0.length c0,.int .i64 t700] rfl zE ?_;(with_reducible refine(yac.calls k _ _ l0 t700 t702 t703 t704 _ ?side1 ?side2 A7.out).mono ?_);(case side1=>exact zC HR0.out);(case side2=>exact HC0.out);rintro e w' ⟨rfl,⟨nd,rfl⟩⟩;refine⟨_,rfl,?_⟩))
      go_ret2
      exact⟨_,zG,zN,zB⟩
     ·rw[if_neg c9] at H
      have c9b0:decide ((l0.length:Int)≤t703)=false:=decide_eq_false c9
      clear c9
      by_cases c10:0≤t703
      ·rw[if_pos c10] at H
       have c10b0:=decide_eq_true c10
       clear c10
       by_cases c11:t703<(l0.length:Int)
       ·rw[if_pos c11] at H
        have c11b0:=decide_eq_true c11
        clear c11
        by_cases c12:(wrap64 (rd l0 t703)) > 64
        ·rw[if_pos c12] at H
         have c12b0:decide (64<(wrap64 (rd l0 t703)))=true:=decide_eq_true c12
         clear c12
         simp only[Option.some.injEq,Prod.mk.injEq] at H
         obtain⟨rfl,rfl⟩:=H
         go_enter Tryz.func77,Tryz.ntmps77
         go_wp2_with (first|((with_reducible refine yad (f:=44) rfl ?_);refine yak (some 15) rfl rfl Tryz.func44 (by kernel_rfl) rfl #[.slice A0 l0.length c0,.int .i64 0] rfl zE ?_;(with_reducible refine(yac.calls k _ _ l0 0 t699 t700 t701 _ ?side1 ?side2 A2.out).mono ?_);(case side1=>exact zC HR0.out);(case side2=>exact HC0.out);rintro e w' ⟨rfl,⟨nd,rfl⟩⟩;refine⟨_,rfl,?_⟩)|((with_reducible refine yad (f:=44) rfl ?_);refine yak (some 33) rfl rfl Tryz.func44 (by kernel_rfl) rfl #[.slice A0 l0.length c0,.int .i64 t700] rfl zE ?_;(with_reducible refine(yac.calls k _ _ l0 t700 t702 t703 t704 _ ?side1 ?side2 A7.out).mono ?_);(case side1=>exact zC HR0.out);(case side2=>exact HC0.out);rintro e w' ⟨rfl,⟨nd,rfl⟩⟩;refine⟨_,rfl,?_⟩;have p705:0≤(t703:Int):=of_decide_eq_true zA;have q705:t703<(l0.length:Int):=of_decide_eq_true zA;obtain⟨ad705,e705,hx705_0⟩:=Kd.at_int HR0.out t703 p705 q705;cases e705;replace p705:=eq_true p705;replace q705:=eq_true q705))
         go_ret2
         exact⟨_,zG,zN,zB⟩
        ·rw[if_neg c12] at H
         have c12b0:decide (64<(wrap64 (rd l0 t703)))=false:=decide_eq_false c12
         clear c12
         replace H:=Option.bind_eq_some_iff.mp H
         obtain⟨t706,A130,H⟩:=H
         try dsimp only at H
         have A13:=yaa.mk A130
         clear A130
         replace H:=Option.bind_eq_some_iff.mp H
         obtain⟨⟨t709,t710⟩,A140,H⟩:=H
         try dsimp only at H
         have A14:=yaa.mk A140
         clear A140
         by_cases c15:t710=0
         ·rw[if_pos c15] at H
          have c15b0:(t710 == 0)=true:=beq_iff_eq.mpr c15
          have c15b1:(t710 != 0)=false:=bne_eq_false_iff_eq.mpr c15
          clear c15
          replace H:=Option.bind_eq_some_iff.mp H
          obtain⟨t713,A160,H⟩:=H
          try dsimp only at H
          have A16:=yaa.mk A160
          clear A160
          by_cases c17:t713=(wrap64 (rd l0 t703))
          ·rw[if_pos c17] at H
           have c17b0:(t713 == (wrap64 (rd l0 t703)))=true:=beq_iff_eq.mpr c17
           have c17b1:(t713 != (wrap64 (rd l0 t703)))=false:=bne_eq_false_iff_eq.mpr c17
           clear c17
           replace H:=Option.bind_eq_some_iff.mp H
           obtain⟨t714,A180,H⟩:=H
           try dsimp only at H
           have A18:=yaa.mk A180
           clear A180
           replace H:=Option.bind_eq_some_iff.mp H
           obtain⟨⟨t715,t716⟩,A190,H⟩:=H
           try dsimp only at H
           have A19:=yaa.mk A190
           clear A190
           simp only[Option.some.injEq,Prod.mk.injEq] at H
           obtain⟨rfl,rfl⟩:=H
           go_enter Tryz.func77,Tryz.ntmps77
           go_wp2_with (first|((with_reducible refine yad (f:=44) rfl ?_);refine yak (some 15) rfl rfl Tryz.func44 (by kernel_rfl) rfl #[.slice A0 l0.length c0,.int .i64 0] rfl zE ?_;(with_reducible refine(yac.calls k _ _ l0 0 t699 t700 t701 _ ?side1 ?side2 A2.out).mono ?_);(case side1=>exact zC HR0.out);(case side2=>exact HC0.out);rintro e w' ⟨rfl,⟨nd,rfl⟩⟩;refine⟨_,rfl,?_⟩)|((with_reducible refine yad (f:=44) rfl ?_);refine yak (some 33) rfl rfl Tryz.func44 (by kernel_rfl) rfl #[.slice A0 l0.length c0,.int .i64 t700] rfl zE ?_;(with_reducible refine(yac.calls k _ _ l0 t700 t702 t703 t704 _ ?side1 ?side2 A7.out).mono ?_);(case side1=>exact zC HR0.out);(case side2=>exact HC0.out);rintro e w' ⟨rfl,⟨nd,rfl⟩⟩;refine⟨_,rfl,?_⟩;have p705:0≤(t703:Int):=of_decide_eq_true zA;have q705:t703<(l0.length:Int):=of_decide_eq_true zA;obtain⟨ad705,e705,hx705_0⟩:=Kd.at_int HR0.out t703 p705 q705;cases e705;replace p705:=eq_true p705;replace q705:=eq_true q705)|((with_reducible refine yad (f:=43) rfl ?_);refine yak (some 57) rfl rfl Tryz.func43 (by kernel_rfl) rfl #[.slice (some ad705) l0.length c0,.int .i64 (wrap64 (t703+1)),.int .i64 (l0.length:Int)] rfl zE ?_;(with_reducible refine(yag.calls k _ _ l0 (wrap64 (t703+1)) (l0.length:Int) t706 _ ?side1 ?side2 A13.out).mono ?_);(case side1=>exact zC HR0.out);(case side2=>exact HC0.out);rintro e w20 ⟨v707,rfl,ho0,hb⟩;refine⟨_,rfl,?_⟩;have n0_:=yaa.mk (Kd.R_lower ho0 (yaf zB));have n1_:=yaa.mk (yai zB hb);clear HB;have HO708:=n0_;have HB:=n1_;clear n0_ n1_;(try clear hb);(try clear hb2);(try clear hk);(try clear hi);(try clear ho0);obtain⟨Ao21,co21,eo21⟩:=Kd.R_slice HO708.out;subst eo21)|((with_reducible refine yad (f:=73) rfl ?_);refine yak (some 61) rfl rfl Tryz.func73 (by kernel_rfl) rfl #[.slice Ao21 t706.length co21,.int .i64 (wrap64 (rd l0 t703)),.int .i64 (wrap64 (t699))] rfl zE ?_;(with_reducible refine(yah.calls k _ _ t706 (wrap64 (rd l0 t703)) (wrap64 (t699)) t709 t710 _ ?side1 ?side2 A14.out).mono ?_);(case side1=>exact zC (Kd.R_reads' HO708.out).2.2);(case side2=>exact(Kd.R_reads' HO708.out).2.1);rintro e w22 ⟨v711,rfl,ho0,hb⟩;refine⟨_,rfl,?_⟩;have n0_:=yaa.mk (Kd.R_below (zR HO708.out) hb);have n1_:=yaa.mk (Kd.R_lower ho0 (yaf zB));have n2_:=yaa.mk (yai zB hb);clear HO708;clear HB;have HO708:=n0_;have HO712:=n1_;have HB:=n2_;clear n0_ n1_ n2_;(try clear hb);(try clear hb2);(try clear hk);(try clear hi);(try clear ho0);obtain⟨Ao23,co23,eo23⟩:=Kd.R_slice HO712.out;subst eo23)|((with_reducible refine yad (f:=74) rfl ?_);refine yak (some 68) rfl rfl Tryz.func74 (by kernel_rfl) rfl #[.slice Ao23 t709.length co23] rfl zE ?_;(with_reducible refine(yal.calls k _ _ t709 t713 _ ?side1 ?side2 A16.out).mono ?_);(case side1=>exact zC (Kd.R_reads' HO712.out).2.2);(case side2=>exact(Kd.R_reads' HO712.out).2.1);rintro e w' ⟨rfl,⟨nd,rfl⟩⟩;refine⟨_,rfl,?_⟩)|((with_reducible refine yad (f:=115) rfl ?_);refine yak (some 72) rfl rfl Tryz.func115 (by kernel_rfl) rfl #[.int .u64 t702] rfl zE ?_;(with_reducible refine(yc1.calls t702 t714 _ A18.out).mono ?_);rintro e w' ⟨rfl,⟨nd,rfl⟩⟩;refine⟨_,rfl,?_⟩)|((with_reducible refine yad (f:=116) rfl ?_);refine yak (some 74) rfl rfl Tryz.func116 (by kernel_rfl) rfl #[.int .i64 t714,.slice Ao23 t709.length co23] rfl zE ?_;(with_reducible refine(yax.calls k t714 _ _ t709 t715 t716 _ ?side1 ?side2 A19.out).mono ?_);(case side1=>exact zC (Kd.R_reads' HO712.out).2.2);(case side2=>exact(Kd.R_reads' HO712.out).2.1);rintro e w24 ⟨v717,rfl,ho0,hb⟩;refine⟨_,rfl,?_⟩;have n0_:=yaa.mk (Kd.R_below (zR HO708.out) hb);have n1_:=yaa.mk (Kd.R_below (zR HO712.out) hb);have n2_:=yaa.mk (Kd.R_lower ho0 (yaf zB));have n3_:=yaa.mk (yai zB hb);clear HO708;clear HO712;clear HB;have HO708:=n0_;have HO712:=n1_;have HO718:=n2_;have HB:=n3_;clear n0_ n1_ n2_ n3_;(try clear hb);(try clear hb2);(try clear hk);(try clear hi);(try clear ho0)))
           go_ret2
           exact⟨_,zG,zR HO718.out,zB⟩
          ·rw[if_neg c17] at H
           have c17b0:(t713 == (wrap64 (rd l0 t703)))=false:=beq_eq_false_iff_ne.mpr c17
           have c17b1:(t713 != (wrap64 (rd l0 t703)))=true:=bne_iff_ne.mpr c17
           simp only[Option.some.injEq,Prod.mk.injEq] at H
           obtain⟨rfl,rfl⟩:=H
           go_enter Tryz.func77,Tryz.ntmps77
           go_wp2_with (first|((with_reducible refine yad (f:=44) rfl ?_);refine yak (some 15) rfl rfl Tryz.func44 (by kernel_rfl) rfl #[.slice A0 l0.length c0,.int .i64 0] rfl zE ?_;(with_reducible refine(yac.calls k _ _ l0 0 t699 t700 t701 _ ?side1 ?side2 A2.out).mono ?_);(case side1=>exact zC HR0.out);(case side2=>exact HC0.out);rintro e w' ⟨rfl,⟨nd,rfl⟩⟩;refine⟨_,rfl,?_⟩)|((with_reducible refine yad (f:=44) rfl ?_);refine yak (some 33) rfl rfl Tryz.func44 (by kernel_rfl) rfl #[.slice A0 l0.length c0,.int .i64 t700] rfl zE ?_;(with_reducible refine(yac.calls k _ _ l0 t700 t702 t703 t704 _ ?side1 ?side2 A7.out).mono ?_);(case side1=>exact zC HR0.out);(case side2=>exact HC0.out);rintro e w' ⟨rfl,⟨nd,rfl⟩⟩;refine⟨_,rfl,?_⟩;have p705:0≤(t703:Int):=of_decide_eq_true zA;have q705:t703<(l0.length:Int):=of_decide_eq_true zA;obtain⟨ad705,e705,hx705_0⟩:=Kd.at_int HR0.out t703 p705 q705;cases e705;replace p705:=eq_true p705;replace q705:=eq_true q705)|((with_reducible refine yad (f:=43) rfl ?_);refine yak (some 57) rfl rfl Tryz.func43 (by kernel_rfl) rfl #[.slice (some ad705) l0.length c0,.int .i64 (wrap64 (t703+1)),.int .i64 (l0.length:Int)] rfl zE ?_;(with_reducible refine(yag.calls k _ _ l0 (wrap64 (t703+1)) (l0.length:Int) t706 _ ?side1 ?side2 A13.out).mono ?_);(case side1=>exact zC HR0.out);(case side2=>exact HC0.out);rintro e w25 ⟨v707,rfl,ho0,hb⟩;refine⟨_,rfl,?_⟩;have n0_:=yaa.mk (Kd.R_lower ho0 (yaf zB));have n1_:=yaa.mk (yai zB hb);clear HB;have HO708:=n0_;have HB:=n1_;clear n0_ n1_;(try clear hb);(try clear hb2);(try clear hk);(try clear hi);(try clear ho0);obtain⟨Ao26,co26,eo26⟩:=Kd.R_slice HO708.out;subst eo26)|((with_reducible refine yad (f:=73) rfl ?_);refine yak (some 61) rfl rfl Tryz.func73 (by kernel_rfl) rfl #[.slice Ao26 t706.length co26,.int .i64 (wrap64 (rd l0 t703)),.int .i64 (wrap64 (t699))] rfl zE ?_;(with_reducible refine(yah.calls k _ _ t706 (wrap64 (rd l0 t703)) (wrap64 (t699)) t709 t710 _ ?side1 ?side2 A14.out).mono ?_);(case side1=>exact zC (Kd.R_reads' HO708.out).2.2);(case side2=>exact(Kd.R_reads' HO708.out).2.1);rintro e w27 ⟨v711,rfl,ho0,hb⟩;refine⟨_,rfl,?_⟩;have n0_:=yaa.mk (Kd.R_below (zR HO708.out) hb);have n1_:=yaa.mk (Kd.R_lower ho0 (yaf zB));have n2_:=yaa.mk (yai zB hb);clear HO708;clear HB;have HO708:=n0_;have HO712:=n1_;have HB:=n2_;clear n0_ n1_ n2_;(try clear hb);(try clear hb2);(try clear hk);(try clear hi);(try clear ho0);obtain⟨Ao28,co28,eo28⟩:=Kd.R_slice HO712.out;subst eo28)|((with_reducible refine yad (f:=74) rfl ?_);refine yak (some 68) rfl rfl Tryz.func74 (by kernel_rfl) rfl #[.slice Ao28 t709.length co28] rfl zE ?_;(with_reducible refine(yal.calls k _ _ t709 t713 _ ?side1 ?side2 A16.out).mono ?_);(case side1=>exact zC (Kd.R_reads' HO712.out).2.2);(case side2=>exact(Kd.R_reads' HO712.out).2.1);rintro e w' ⟨rfl,⟨nd,rfl⟩⟩;refine⟨_,rfl,?_⟩))
           go_ret2
           exact⟨_,zG,zN,zB⟩
         ·rw[if_neg c15] at H
          have c15b0:(t710 == 0)=false:=beq_eq_false_iff_ne.mpr c15
          have c15b1:(t710 != 0)=true:=bne_iff_ne.mpr c15
          simp only[Option.some.injEq,Prod.mk.injEq] at H
          obtain⟨rfl,rfl⟩:=H
          go_enter Tryz.func77,Tryz.ntmps77
          go_wp2_with (first|((with_reducible refine yad (f:=44) rfl ?_);refine yak (some 15) rfl rfl Tryz.func44 (by kernel_rfl) rfl #[.slice A0 l0.length c0,.int .i64 0] rfl zE ?_;(with_reducible refine(yac.calls k _ _ l0 0 t699 t700 t701 _ ?side1 ?side2 A2.out).mono ?_);(case side1=>exact zC HR0.out);(case side2=>exact HC0.out);rintro e w' ⟨rfl,⟨nd,rfl⟩⟩;refine⟨_,rfl,?_⟩)|((with_reducible refine yad (f:=44) rfl ?_);refine yak (some 33) rfl rfl Tryz.func44 (by kernel_rfl) rfl #[.slice A0 l0.length c0,.int .i64 t700] rfl zE ?_;(with_reducible refine(yac.calls k _ _ l0 t700 t702 t703 t704 _ ?side1 ?side2 A7.out).mono ?_);(case side1=>exact zC HR0.out);(case side2=>exact HC0.out);rintro e w' ⟨rfl,⟨nd,rfl⟩⟩;refine⟨_,rfl,?_⟩;have p705:0≤(t703:Int):=of_decide_eq_true zA;have q705:t703<(l0.length:Int):=of_decide_eq_true zA;obtain⟨ad705,e705,hx705_0⟩:=Kd.at_int HR0.out t703 p705 q705;cases e705;replace p705:=eq_true p705;replace q705:=eq_true q705)|((with_reducible refine yad (f:=43) rfl ?_);refine yak (some 57) rfl rfl Tryz.func43 (by kernel_rfl) rfl #[.slice (some ad705) l0.length c0,.int .i64 (wrap64 (t703+1)),.int .i64 (l0.length:Int)] rfl zE ?_;(with_reducible refine(yag.calls k _ _ l0 (wrap64 (t703+1)) (l0.length:Int) t706 _ ?side1 ?side2 A13.out).mono ?_);(case side1=>exact zC HR0.out);(case side2=>exact HC0.out);rintro e w29 ⟨v707,rfl,ho0,hb⟩;refine⟨_,rfl,?_⟩;have n0_:=yaa.mk (Kd.R_lower ho0 (yaf zB));have n1_:=yaa.mk (yai zB hb);clear HB;have HO708:=n0_;have HB:=n1_;clear n0_ n1_;(try clear hb);(try clear hb2);(try clear hk);(try clear hi);(try clear ho0);obtain⟨Ao30,co30,eo30⟩:=Kd.R_slice HO708.out;subst eo30)|((with_reducible refine yad (f:=73) rfl ?_);refine yak (some 61) rfl rfl Tryz.func73 (by kernel_rfl) rfl #[.slice Ao30 t706.length co30,.int .i64 (wrap64 (rd l0 t703)),.int .i64 (wrap64 (t699))] rfl zE ?_;(with_reducible refine(yah.calls k _ _ t706 (wrap64 (rd l0 t703)) (wrap64 (t699)) t709 t710 _ ?side1 ?side2 A14.out).mono ?_);(case side1=>exact zC (Kd.R_reads' HO708.out).2.2);(case side2=>exact(Kd.R_reads' HO708.out).2.1);rintro e w31 ⟨v711,rfl,ho0,hb⟩;refine⟨_,rfl,?_⟩;have n0_:=yaa.mk (Kd.R_below (zR HO708.out) hb);have n1_:=yaa.mk (Kd.R_lower ho0 (yaf zB));have n2_:=yaa.mk (yai zB hb);clear HO708;clear HB;have HO708:=n0_;have HO712:=n1_;have HB:=n2_;clear n0_ n1_ n2_;(try clear hb);(try clear hb2);(try clear hk);(try clear hi);(try clear ho0)))
          go_ret2
          exact⟨_,zG,zN,zB⟩
       ·rw[if_neg c11] at H
        exact absurd H (by simp)
      ·rw[if_neg c10] at H
       exact absurd H (by simp)
    ·rw[if_neg c8] at H
     have c8b0:(t704 == 0)=false:=beq_eq_false_iff_ne.mpr c8
     have c8b1:(t704 != 0)=true:=bne_iff_ne.mpr c8
     simp only[Option.some.injEq,Prod.mk.injEq] at H
     obtain⟨rfl,rfl⟩:=H
     go_enter Tryz.func77,Tryz.ntmps77
     go_wp2_with (first|((with_reducible refine yad (f:=44) rfl ?_);refine yak (some 15) rfl rfl Tryz.func44 (by kernel_rfl) rfl #[.slice A0 l0.length c0,.int .i64 0] rfl zE ?_;(with_reducible refine(yac.calls k _ _ l0 0 t699 t700 t701 _ ?side1 ?side2 A2.out).mono ?_);(case side1=>exact zC HR0.out);(case side2=>exact HC0.out);rintro e w' ⟨rfl,⟨nd,rfl⟩⟩;refine⟨_,rfl,?_⟩)|((with_reducible refine yad (f:=44) rfl ?_);refine yak (some 33) rfl rfl Tryz.func44 (by kernel_rfl) rfl #[.slice A0 l0.length c0,.int .i64 t700] rfl zE ?_;(with_reducible refine(yac.calls k _ _ l0 t700 t702 t703 t704 _ ?side1 ?side2 A7.out).mono ?_);(case side1=>exact zC HR0.out);(case side2=>exact HC0.out);rintro e w' ⟨rfl,⟨nd,rfl⟩⟩;refine⟨_,rfl,?_⟩))
     go_ret2
     exact⟨_,zG,zN,zB⟩
 ·rw[if_neg c3] at H
  have c3b0:(t701 == 0)=false:=beq_eq_false_iff_ne.mpr c3
  have c3b1:(t701 != 0)=true:=bne_iff_ne.mpr c3
  simp only[Option.some.injEq,Prod.mk.injEq] at H
  obtain⟨rfl,rfl⟩:=H
  go_enter Tryz.func77,Tryz.ntmps77
  go_wp2_with (first|((with_reducible refine yad (f:=44) rfl ?_);refine yak (some 15) rfl rfl Tryz.func44 (by kernel_rfl) rfl #[.slice A0 l0.length c0,.int .i64 0] rfl zE ?_;(with_reducible refine(yac.calls k _ _ l0 0 t699 t700 t701 _ ?side1 ?side2 A2.out).mono ?_);(case side1=>exact zC HR0.out);(case side2=>exact HC0.out);rintro e w' ⟨rfl,⟨nd,rfl⟩⟩;refine⟨_,rfl,?_⟩))
  go_ret2
  exact⟨_,zG,zN,zB⟩
end Go.Proofs.YteeikgjjgfdjgaaGreat.PK
end
