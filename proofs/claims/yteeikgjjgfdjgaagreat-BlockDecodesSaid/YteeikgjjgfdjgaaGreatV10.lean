/-
  Parts of the proof: E5, E14.
-/
import Derived.Test.YteeikgjjgfdjgaaGreatV9
import Derived.Test.YteeikgjjgfdjgaaGreatV8
set_option maxHeartbeats 8000000
set_option maxRecDepth 100000
section
namespace Go.Proofs.YteeikgjjgfdjgaaGreat.PK
open Go.RowKit YteeikgjjgfdjgaaGreatW.PrintWords YteeikgjjgfdjgaaGreatW.PrintLast YteeikgjjgfdjgaaGreatW.PrintMore
attribute [local go_sem] yce ycf ycu ycv yb8 yb7 ycm yco
set_option linter.unusedVariables false
set_option linter.unusedSimpArgs false
def ya4.l0:Nat→Int→List Int→List (S53)→Int→Int→Option (List Int)
 | 0,_,_,_,_,_=>none
 | k+1,x0,x5,x8,x9,x10=>if x10<x9 then (if 0≤x10 then (if x10<(x8.length:Int) then (if (yar x8 x10).f0=true then (ya4.l0 k x0 x5 x8 x9 (wrap64 (x10+1))) else ((ybp.f x0).bind fun t377=>(if t377=true then ((ye0.f ((yar x8 x10).f1)).bind fun t378=>((ya0.f k t378).bind fun t379=>(if x5.length+t379.length<140737488355328 then (ya4.l0 k x0 (x5++t379) x8 x9 (wrap64 (x10+1))) else (none)))) else ((ya0.f k (IntKind.u64.wrap ((((yar x8 x10).f2).length:Int)))).bind fun t385=>(if x5.length+t385.length<140737488355328 then ((some (x5++t385:List Int)).bind fun y388=>(if y388.length+((yar x8 x10).f2).length<140737488355328 then (ya4.l0 k x0 (y388++((yar x8 x10).f2)) x8 x9 (wrap64 (x10+1))) else (none))) else (none)))))) else (none)) else (none)) else (some x5)
def ya4.f (k:Nat) (a0:Int) (l1:List (S53)):Option (List Int):=ya4.l0 k a0 ([]:List Int) l1 (l1.length:Int) 0
def ya4.T5:Bool×List (List Nat×List Nat):=(true,[([],[]),([],[]),([1],[1]),([2],[2]),([3],[3]),([4],[4]),([0,5,5],[0,5]),([],[]),([7],[7]),([6,8,6],[6,8]),([9,9,0,1,2,3,4,5,6,7,8,9],[0,9])])
def ya4.B5:List Nat:=[0,0,2,6,14,30,63,0,128,511,1023]
theorem ya4.tab5:rtab .any (opsOf Tryz.f90 5)=ya4.T5:=by kernel_rfl
theorem ya4.bits5:yji ya4.T5.2 ya4.B5=true:=by kernel_rfl
theorem ya4.calls (k:Nat) (a0:Int) (A1:Option Addr) (c1:Nat) (l1:List (S53)) (r:List Int) (w:World) (hr1:Kd.C k53 w A1 l1.length l1) (hc1:l1.length≤c1) (h:ya4.f k a0 l1=some r) :
  Calls Tryz.prog 90 #[.int .i64 a0,.slice A1 l1.length c1] w fun e w'=>∃ v0_:Value,e=.returned (v0_)∧Kd.R (Kd.int .u8) 5 w' w.heap.size (fun _=>True) v0_ r∧Below w.heap.size w w':=by
 have hu53:=Tryz.underlying53
 have HR1:=yaa.mk hr1
 have HC1:=yaa.mk hc1
 clear hr1 hc1
 have HB:=yaa.mk (Below.refl w.heap.size w)
 have H:(ya4.l0 k a0 ([]:List Int) l1 (l1.length:Int) 0)=some r:=h
 clear h
 have H':=yaa.mk H
 clear H
 go_enter Tryz.func90,Tryz.ntmps90
 go_wp2
 go_loopg [5,10] k (fun kq v5 v10 w'=>∃ (x5_1:List Int) (x10_1:Int),v10=.int .i64 x10_1∧yaa (ya4.l0 kq a0 x5_1 l1 (l1.length:Int) x10_1=some r)∧yaa (kq≤k)∧yaa (Kd.R (Kd.int .u8) 5 w' w.heap.size (fun _=>True) v5 x5_1)∧yaa (Below w.heap.size w w'))
 case atStart=>exact⟨(([]:List Int)),(0),zF,H',⟨Nat.le_refl _⟩,⟨zN⟩,⟨zB⟩⟩
 case round =>
  clear H'
  try clear c1
  try clear p2
  obtain⟨x5_1,x10_1,rfl,HA,HK1,HO_5,HB⟩:=hrel
  cases gk with
  | zero=>exact absurd HA.out (by simp [ya4.l0])
  | succ k1 =>
   have H:=HA.out
   clear HA
   simp only[ya4.l0] at H
   by_cases c3:x10_1<(l1.length:Int)
   ·rw[if_pos c3] at H
    have c3b0:=decide_eq_true c3
    clear c3
    by_cases c4:0≤x10_1
    ·rw[if_pos c4] at H
     have c4b0:=decide_eq_true c4
     clear c4
     by_cases c5:x10_1<(l1.length:Int)
     ·rw[if_pos c5] at H
      have c5b0:=decide_eq_true c5
      clear c5
      obtain⟨bq6,hbq6⟩:∃ b_:Bool,b_=((yar l1 x10_1).f0):=⟨_,rfl⟩
      replace H:(if bq6=true then (ya4.l0 k1 a0 x5_1 l1 (l1.length:Int) (wrap64 (x10_1+1))) else ((ybp.f a0).bind fun t377=>(if t377=true then ((ye0.f ((yar l1 x10_1).f1)).bind fun t378=>((ya0.f k1 t378).bind fun t379=>(if x5_1.length+t379.length<140737488355328 then (ya4.l0 k1 a0 (x5_1++t379) l1 (l1.length:Int) (wrap64 (x10_1+1))) else (none)))) else ((ya0.f k1 (IntKind.u64.wrap ((((yar l1 x10_1).f2).length:Int)))).bind fun t385=>(if x5_1.length+t385.length<140737488355328 then ((some (x5_1++t385:List Int)).bind fun y388=>(if y388.length+((yar l1 x10_1).f2).length<140737488355328 then (ya4.l0 k1 a0 (y388++((yar l1 x10_1).f2)) l1 (l1.length:Int) (wrap64 (x10_1+1))) else (none))) else (none))))))=some r:=by rw[← hbq6] at H;exact H
      have Nbq6:=yaa.mk hbq6
      clear hbq6
      by_cases c7:bq6=true
      ·subst c7
       have H1:(ya4.l0 k1 a0 x5_1 l1 (l1.length:Int) (wrap64 (x10_1+1)))=some r:=by rw[if_pos rfl] at H;exact H
       clear H
       have H:=H1
       clear H1
       have H':=yaa.mk H
       clear H
       have p375:0≤(x10_1:Int):=of_decide_eq_true zA
       have q375:x10_1<(l1.length:Int):=of_decide_eq_true zA
       obtain⟨ad375,A375_2,c375_2,e375,hx375_0,hx375_1,hx375_2,hl375_2,hi375_2⟩:=yfv HR1.out x10_1 p375 q375
       (try rw[← Nbq6.out] at hx375_0)
       cases e375
       replace hx375_0:=(HB.out.cell (World.block_lt_of_cell? w _ hx375_0)).trans hx375_0
       replace hx375_1:=(HB.out.cell (World.block_lt_of_cell? w _ hx375_1)).trans hx375_1
       replace hx375_2:=(HB.out.cell (World.block_lt_of_cell? w _ hx375_2)).trans hx375_2
       have HR375_2:=yaa.mk hi375_2
       have HC375_2:=yaa.mk hl375_2
       clear hi375_2 hl375_2
       replace p375:=eq_true p375
       replace q375:=eq_true q375
       go_wp2_with (first|((with_reducible refine yb1 (N:=7) rfl ?_);refine yfr ?hg (N:=7) ?hd (cs:=#[.bool false,.int .i64 0,.slice none 0 0]) (t:=53) ?hr ?_;(case hd=>rfl);(case hg=>rfl);(case hr=>first|(go_simp;done)|(go_simp;rfl));intro gb376 hg w8 hbox hb;have n0_:=yaa.mk (Kd.R_below (zR HO_5.out) hb);have n1_:=yaa.mk (yai zB hb);have n2_:=yaa.mk (hbox);have n3_:=yaa.mk ((by rw[hg];exact(yaf zB):w.heap.size≤gb376));have n4_:=yaa.mk ((by rw[hg];exact(yaf zB):w.heap.size≤gb376));clear HO_5;clear HB;have HO_5:=n0_;have HB:=n1_;have BK376:=n2_;have GW376:=n3_;have GE376:=n4_;clear n0_ n1_ n2_ n3_ n4_;clear hb hbox hg;have hcz9_0:w8.cell? ⟨gb376,0,none⟩=some (.bool false):=(yau BK376.out 0).trans rfl;have hcz9_1:w8.cell? ⟨gb376,1,none⟩=some (.int .i64 0):=(yau BK376.out 1).trans rfl;have hcz9_2:w8.cell? ⟨gb376,2,none⟩=some (.slice none 0 0):=(yau BK376.out 2).trans rfl;have hfz9_0:=yas BK376.out 0;have hfz9_1:=yas BK376.out 1;have hfz9_2:=yas BK376.out 2))
       go_roundg k1
       case measure=>have:=HK1.out;omega
       case rel=>exact⟨(x5_1),(wrap64 (x10_1+1)),zF,H',⟨by have:=HK1.out;omega⟩,⟨by (with_reducible repeat (first|apply Kd.R_alloc|apply Kd.R_drewN|apply Kd.R_drew));exact Kd.R_mono (Kd.R_far (p:=⟨gb376,2,none⟩) (Kd.R_far (p:=⟨gb376,1,none⟩) (Kd.R_far (p:=⟨gb376,0,none⟩) (Kd.R_types HO_5.out BK376.out (by decide)) (fun _ hk=>hk.2) (.bool true)) (fun _ hk=>hk.2) (.int .i64 ((yar l1 x10_1).f1))) (fun _ hk=>hk.2) (.slice A375_2 ((yar l1 x10_1).f2).length c375_2)) (fun _ hk=>trivial)⟩,⟨(have GE_:=GE376;zT)⟩⟩
      ·replace c7:=Bool.eq_false_iff.mpr c7
       subst c7
       have H1:((ybp.f a0).bind fun t377=>(if t377=true then ((ye0.f ((yar l1 x10_1).f1)).bind fun t378=>((ya0.f k1 t378).bind fun t379=>(if x5_1.length+t379.length<140737488355328 then (ya4.l0 k1 a0 (x5_1++t379) l1 (l1.length:Int) (wrap64 (x10_1+1))) else (none)))) else ((ya0.f k1 (IntKind.u64.wrap ((((yar l1 x10_1).f2).length:Int)))).bind fun t385=>(if x5_1.length+t385.length<140737488355328 then ((some (x5_1++t385:List Int)).bind fun y388=>(if y388.length+((yar l1 x10_1).f2).length<140737488355328 then (ya4.l0 k1 a0 (y388++((yar l1 x10_1).f2)) l1 (l1.length:Int) (wrap64 (x10_1+1))) else (none))) else (none)))))=some r:=by rw[if_neg (show ¬ (false=true) by decide)] at H;exact H
       clear H
       have H:=H1
       clear H1
       replace H:=Option.bind_eq_some_iff.mp H
       obtain⟨t377,A100,H⟩:=H
       try dsimp only at H
       have A10:=yaa.mk A100
       clear A100
       by_cases c11:t377=true
       ·subst c11
        have H1:((ye0.f ((yar l1 x10_1).f1)).bind fun t378=>((ya0.f k1 t378).bind fun t379=>(if x5_1.length+t379.length<140737488355328 then (ya4.l0 k1 a0 (x5_1++t379) l1 (l1.length:Int) (wrap64 (x10_1+1))) else (none))))=some r:=by rw[if_pos rfl] at H;exact H
        clear H
        have H:=H1
        clear H1
        replace H:=Option.bind_eq_some_iff.mp H
        obtain⟨t378,A120,H⟩:=H
        try dsimp only at H
        have A12:=yaa.mk A120
        clear A120
        replace H:=Option.bind_eq_some_iff.mp H
        obtain⟨t379,A130,H⟩:=H
        try dsimp only at H
        have A13:=yaa.mk A130
        clear A130
        by_cases c14:x5_1.length+t379.length<140737488355328
        ·rw[if_pos c14] at H
         have LMc14:=yaa.mk c14
         clear c14
         obtain⟨y382,hy382⟩:∃ y_:List Int,y_=(x5_1++t379):=⟨_,rfl⟩
         replace H:(ya4.l0 k1 a0 y382 l1 (l1.length:Int) (wrap64 (x10_1+1)))=some r:=by first|(rw[hy382];with_reducible exact H)|(have H2_:=(Option.bind_some _ _).symm.trans H;rw[hy382];with_reducible exact H2_)|(have H2_:=(Option.bind_some _ _).symm.trans H;with_reducible exact H2_)|with_reducible exact H|(rw[hy382];exact H)|exact H
         have Ny382:=yaa.mk hy382
         clear hy382
         have H':=yaa.mk H
         clear H
         have p375:0≤(x10_1:Int):=of_decide_eq_true zA
         have q375:x10_1<(l1.length:Int):=of_decide_eq_true zA
         obtain⟨ad375,A375_2,c375_2,e375,hx375_0,hx375_1,hx375_2,hl375_2,hi375_2⟩:=yfv HR1.out x10_1 p375 q375
         (try rw[← Nbq6.out] at hx375_0)
         cases e375
         replace hx375_0:=(HB.out.cell (World.block_lt_of_cell? w _ hx375_0)).trans hx375_0
         replace hx375_1:=(HB.out.cell (World.block_lt_of_cell? w _ hx375_1)).trans hx375_1
         replace hx375_2:=(HB.out.cell (World.block_lt_of_cell? w _ hx375_2)).trans hx375_2
         have HR375_2:=yaa.mk hi375_2
         have HC375_2:=yaa.mk hl375_2
         clear hi375_2 hl375_2
         replace p375:=eq_true p375
         replace q375:=eq_true q375
         go_wp2_with (first|((with_reducible refine yb1 (N:=7) rfl ?_);refine yfr ?hg (N:=7) ?hd (cs:=#[.bool false,.int .i64 0,.slice none 0 0]) (t:=53) ?hr ?_;(case hd=>rfl);(case hg=>rfl);(case hr=>first|(go_simp;done)|(go_simp;rfl));intro gb376 hg w15 hbox hb;have n0_:=yaa.mk (Kd.R_below (zR HO_5.out) hb);have n1_:=yaa.mk (yai zB hb);have n2_:=yaa.mk (hbox);have n3_:=yaa.mk ((by rw[hg];exact(yaf zB):w.heap.size≤gb376));have n4_:=yaa.mk ((by rw[hg];exact(yaf zB):w.heap.size≤gb376));clear HO_5;clear HB;have HO_5:=n0_;have HB:=n1_;have BK376:=n2_;have GW376:=n3_;have GE376:=n4_;clear n0_ n1_ n2_ n3_ n4_;clear hb hbox hg;have hcz16_0:w15.cell? ⟨gb376,0,none⟩=some (.bool false):=(yau BK376.out 0).trans rfl;have hcz16_1:w15.cell? ⟨gb376,1,none⟩=some (.int .i64 0):=(yau BK376.out 1).trans rfl;have hcz16_2:w15.cell? ⟨gb376,2,none⟩=some (.slice none 0 0):=(yau BK376.out 2).trans rfl;have hfz16_0:=yas BK376.out 0;have hfz16_1:=yas BK376.out 1;have hfz16_2:=yas BK376.out 2)|((with_reducible refine yad (f:=50) rfl ?_);refine yak (some 29) rfl rfl Tryz.func50 (by kernel_rfl) rfl #[.int .i64 a0] rfl zE ?_;(with_reducible refine(ybp.calls a0 true _ A10.out).mono ?_);rintro e w' ⟨rfl,⟨nd,rfl⟩⟩;refine⟨_,rfl,?_⟩)|((with_reducible refine yad (f:=125) rfl ?_);refine yak (some 33) rfl rfl Tryz.func125 (by kernel_rfl) rfl #[.int .i64 ((yar l1 x10_1).f1)] rfl zE ?_;(with_reducible refine(ye0.calls ((yar l1 x10_1).f1) t378 _ A12.out).mono ?_);rintro e w' ⟨rfl,⟨nd,rfl⟩⟩;refine⟨_,rfl,?_⟩)|((with_reducible refine yad (f:=52) rfl ?_);refine yak (some 34) rfl rfl Tryz.func52 (by kernel_rfl) rfl #[.int .u64 t378] rfl zE ?_;(with_reducible refine(ya0.calls k1 t378 t379 _ A13.out).mono ?_);rintro e w17 ⟨v380,rfl,ho0,hb⟩;refine⟨_,rfl,?_⟩;have n0_:=yaa.mk (Kd.R_elder' (by (with_reducible repeat (first|apply Kd.R_alloc|apply Kd.R_drewN|apply Kd.R_drew));exact(Kd.R_mono (Kd.R_far (p:=⟨gb376,2,none⟩) (Kd.R_far (p:=⟨gb376,1,none⟩) (Kd.R_far (p:=⟨gb376,0,none⟩) (Kd.R_types HO_5.out BK376.out (by decide)) (fun _ hk=>hk.2) (.bool false)) (fun _ hk=>hk.2) (.int .i64 ((yar l1 x10_1).f1))) (fun _ hk=>hk.2) (.slice A375_2 ((yar l1 x10_1).f2).length c375_2)) (fun _ h_=>h_.1))) (Kd.R_base ho0) hb);have n1_:=yaa.mk (Kd.R_lower (Kd.R_new' ho0 (Kd.R_lt (by (with_reducible repeat (first|apply Kd.R_alloc|apply Kd.R_drewN|apply Kd.R_drew));exact(Kd.R_mono (Kd.R_far (p:=⟨gb376,2,none⟩) (Kd.R_far (p:=⟨gb376,1,none⟩) (Kd.R_far (p:=⟨gb376,0,none⟩) (Kd.R_types HO_5.out BK376.out (by decide)) (fun _ hk=>hk.2) (.bool false)) (fun _ hk=>hk.2) (.int .i64 ((yar l1 x10_1).f1))) (fun _ hk=>hk.2) (.slice A375_2 ((yar l1 x10_1).f2).length c375_2)) (fun _ h_=>h_.1))))) (yaf (have GE_:=GE376;zT)));have n2_:=yaa.mk (yiu (g:=gb376) (o:=.cells #[.bool false,.int .i64 ((yar l1 x10_1).f1),.slice A375_2 ((yar l1 x10_1).f2).length c375_2] 53 (0,0)) (by (with_reducible repeat (first|refine ych ?_ _|refine ycq ?_|refine ycg ?_ _));refine yf4 (cs:=#[.bool false,.int .i64 ((yar l1 x10_1).f1),.slice none 0 0]) ?_ 2 _ rfl;(with_reducible repeat (first|refine ych ?_ _|refine ycq ?_|refine ycg ?_ _));refine yf4 (cs:=#[.bool false,.int .i64 0,.slice none 0 0]) ?_ 1 _ rfl;(with_reducible repeat (first|refine ych ?_ _|refine ycq ?_|refine ycg ?_ _));refine yf4 (cs:=#[.bool false,.int .i64 0,.slice none 0 0]) ?_ 0 _ rfl;(with_reducible repeat (first|refine ych ?_ _|refine ycq ?_|refine ycg ?_ _));exact BK376.out) hb);have n3_:=yaa.mk (yai (have GE_:=GE376;zT) hb);clear HO_5;clear BK376;clear HB;have HO_5:=n0_;have HO381:=n1_;have BK376:=n2_;have HB:=n3_;clear n0_ n1_ n2_ n3_;(try clear hb);(try clear hb2);(try clear hk);(try clear hi);(try clear ho0);obtain⟨Ao19,co19,eo19⟩:=Kd.R_slice HO381.out;subst eo19)|((with_reducible refine ybm (b:=.append) (xs:=#[.tmp 30,.tmp 34]) rfl ?_);at_builtin;refine Kd.R_append_rows (Kd.int .u8) (w0:=w) w.heap.size rfl (.tmp 30) (.tmp 34) 25 5 (.int .u8 0) 1 rfl Tryz.underlying25 ycj rfl (by decide) (by omega) u5 x5_1 t379 _ _ _ (fun k_=>some k_≠(.slice Ao19 t379.length co19:Value).ownBlock) (fun _=>False) rfl rfl ?aO ?aR (fun _ _ h=>h) (fun _ h=>h.elim) ?aF ?aB ?aS ?aL ?_;(case aR=>exact zC (Kd.R_reads' HO381.out).2.2);(case aB=>exact(have GE_:=GE376;zT));(case aF=>exact(fun k_ hk=>Kd.fresh' (Kd.R_lt (zR HO381.out)) k_ hk));(case aO=>exact(by (with_reducible repeat (first|apply Kd.R_alloc|apply Kd.R_drewN|apply Kd.R_drew));exact Kd.R_mono HO_5.out (fun _ hk=>hk.2)));(case aS=>exact(yaf (have GE_:=GE376;zT)));(case aL=>have:=LMc14.out;omega);intro v383 w18 ho hb hg hat;rw[← Ny382.out] at ho;have n0_:=yaa.mk (yhe (g:=gb376) (o:=.cells #[.bool false,.int .i64 ((yar l1 x10_1).f1),.slice A375_2 ((yar l1 x10_1).f2).length c375_2] 53 (0,0)) (by (with_reducible repeat (first|refine ych ?_ _|refine ycq ?_|refine ycg ?_ _));exact BK376.out) hg (Kd.R_ne HO_5.out BK376.out (by decide)));have n1_:=yaa.mk (Kd.R_after (ok:=(fun _=>True)) (zR HO381.out) hg hat);have n2_:=yaa.mk (hb);have n3_:=yaa.mk (ho);clear BK376;clear HO381;clear HB;clear HO_5;have BK376:=n0_;have HO381:=n1_;have HB:=n2_;have HO384:=n3_;clear n0_ n1_ n2_ n3_;clear ho hb hg hat))
         go_roundg k1
         case measure=>have:=HK1.out;omega
         case rel=>exact⟨(y382),(wrap64 (x10_1+1)),zF,H',⟨by have:=HK1.out;omega⟩,⟨by (with_reducible repeat (first|apply Kd.R_alloc|apply Kd.R_drewN|apply Kd.R_drew));exact Kd.R_mono HO384.out (fun _ hk=>trivial)⟩,⟨(have GE_:=GE376;zT)⟩⟩
        ·rw[if_neg c14] at H
         exact absurd H (by simp)
       ·replace c11:=Bool.eq_false_iff.mpr c11
        subst c11
        have H1:((ya0.f k1 (IntKind.u64.wrap ((((yar l1 x10_1).f2).length:Int)))).bind fun t385=>(if x5_1.length+t385.length<140737488355328 then ((some (x5_1++t385:List Int)).bind fun y388=>(if y388.length+((yar l1 x10_1).f2).length<140737488355328 then (ya4.l0 k1 a0 (y388++((yar l1 x10_1).f2)) l1 (l1.length:Int) (wrap64 (x10_1+1))) else (none))) else (none)))=some r:=by rw[if_neg (show ¬ (false=true) by decide)] at H;exact H
        clear H
        have H:=H1
        clear H1
        replace H:=Option.bind_eq_some_iff.mp H
        obtain⟨t385,A200,H⟩:=H
        try dsimp only at H
        have A20:=yaa.mk A200
        clear A200
        by_cases c21:x5_1.length+t385.length<140737488355328
        ·rw[if_pos c21] at H
         have LMc21:=yaa.mk c21
         clear c21
         obtain⟨y388,hy388⟩:∃ y_:List Int,y_=(x5_1++t385):=⟨_,rfl⟩
         replace H:(if y388.length+((yar l1 x10_1).f2).length<140737488355328 then (ya4.l0 k1 a0 (y388++((yar l1 x10_1).f2)) l1 (l1.length:Int) (wrap64 (x10_1+1))) else (none))=some r:=by first|(rw[hy388];with_reducible exact H)|(have H2_:=(Option.bind_some _ _).symm.trans H;rw[hy388];with_reducible exact H2_)|(have H2_:=(Option.bind_some _ _).symm.trans H;with_reducible exact H2_)|with_reducible exact H|(rw[hy388];exact H)|exact H
         have Ny388:=yaa.mk hy388
         clear hy388
         by_cases c22:y388.length+((yar l1 x10_1).f2).length<140737488355328
         ·rw[if_pos c22] at H
          have LMc22:=yaa.mk c22
          clear c22
          obtain⟨y391,hy391⟩:∃ y_:List Int,y_=(y388++((yar l1 x10_1).f2)):=⟨_,rfl⟩
          replace H:(ya4.l0 k1 a0 y391 l1 (l1.length:Int) (wrap64 (x10_1+1)))=some r:=by first|(rw[hy391];with_reducible exact H)|(have H2_:=(Option.bind_some _ _).symm.trans H;rw[hy391];with_reducible exact H2_)|(have H2_:=(Option.bind_some _ _).symm.trans H;with_reducible exact H2_)|with_reducible exact H|(rw[hy391];exact H)|exact H
          have Ny391:=yaa.mk hy391
          clear hy391
          have H':=yaa.mk H
          clear H
          have p375:0≤(x10_1:Int):=of_decide_eq_true zA
          have q375:x10_1<(l1.length:Int):=of_decide_eq_true zA
          obtain⟨ad375,A375_2,c375_2,e375,hx375_0,hx375_1,hx375_2,hl375_2,hi375_2⟩:=yfv HR1.out x10_1 p375 q375
          (try rw[← Nbq6.out] at hx375_0)
          cases e375
          replace hx375_0:=(HB.out.cell (World.block_lt_of_cell? w _ hx375_0)).trans hx375_0
          replace hx375_1:=(HB.out.cell (World.block_lt_of_cell? w _ hx375_1)).trans hx375_1
          replace hx375_2:=(HB.out.cell (World.block_lt_of_cell? w _ hx375_2)).trans hx375_2
          have HR375_2:=yaa.mk hi375_2
          have HC375_2:=yaa.mk hl375_2
          clear hi375_2 hl375_2
          replace p375:=eq_true p375
          replace q375:=eq_true q375
          try go_wp2_with (first|((with_reducible refine yb1 (N:=7) rfl ?_);refine yfr ?hg (N:=7) ?hd (cs:=#[.bool false,.int .i64 0,.slice none 0 0]) (t:=53) ?hr ?_;(case hd=>rfl);(case hg=>rfl);(case hr=>first|(go_simp;done)|(go_simp;rfl));intro gb376 hg w23 hbox hb;have n0_:=yaa.mk (Kd.R_below (zR HO_5.out) hb);have n1_:=yaa.mk (yai zB hb);have n2_:=yaa.mk (hbox);have n3_:=yaa.mk ((by rw[hg];exact(yaf zB):w.heap.size≤gb376));have n4_:=yaa.mk ((by rw[hg];exact(yaf zB):w.heap.size≤gb376));clear HO_5;clear HB;have HO_5:=n0_;have HB:=n1_;have BK376:=n2_;have GW376:=n3_;have GE376:=n4_;clear n0_ n1_ n2_ n3_ n4_;clear hb hbox hg;have hcz24_0:w23.cell? ⟨gb376,0,none⟩=some (.bool false):=(yau BK376.out 0).trans rfl;have hcz24_1:w23.cell? ⟨gb376,1,none⟩=some (.int .i64 0):=(yau BK376.out 1).trans rfl;have hcz24_2:w23.cell? ⟨gb376,2,none⟩=some (.slice none 0 0):=(yau BK376.out 2).trans rfl;have hfz24_0:=yas BK376.out 0;have hfz24_1:=yas BK376.out 1;have hfz24_2:=yas BK376.out 2)|((with_reducible refine yad (f:=50) rfl ?_);refine yak (some 29) rfl rfl Tryz.func50 (by kernel_rfl) rfl #[.int .i64 a0] rfl zE ?_;(with_reducible refine(ybp.calls a0 false _ A10.out).mono ?_);rintro e w' ⟨rfl,⟨nd,rfl⟩⟩;refine⟨_,rfl,?_⟩))
          have n0_:yaa (Kd.R (Kd.int .u8) 5 (((w23.setCell ⟨gb376,0,none⟩ (.bool false)).setCell ⟨gb376,1,none⟩ (.int .i64 ((yar l1 x10_1).f1))).setCell ⟨gb376,2,none⟩ (.slice A375_2 ((yar l1 x10_1).f2).length c375_2)) w.heap.size (fun _=>True) u5 x5_1):=⟨by (with_reducible repeat (first|apply Kd.R_alloc|apply Kd.R_drewN|apply Kd.R_drew));exact Kd.R_mono (Kd.R_far (p:=⟨gb376,2,none⟩) (Kd.R_far (p:=⟨gb376,1,none⟩) (Kd.R_far (p:=⟨gb376,0,none⟩) (Kd.R_types HO_5.out BK376.out (by decide)) (fun _ hk=>hk.2) (.bool false)) (fun _ hk=>hk.2) (.int .i64 ((yar l1 x10_1).f1))) (fun _ hk=>hk.2) (.slice A375_2 ((yar l1 x10_1).f2).length c375_2)) (fun _ hk=>trivial)⟩
          have n1_:yaa ((((w23.setCell ⟨gb376,0,none⟩ (.bool false)).setCell ⟨gb376,1,none⟩ (.int .i64 ((yar l1 x10_1).f1))).setCell ⟨gb376,2,none⟩ (.slice A375_2 ((yar l1 x10_1).f2).length c375_2)).heap[gb376]?=some (.cells #[.bool false,.int .i64 ((yar l1 x10_1).f1),.slice A375_2 ((yar l1 x10_1).f2).length c375_2] 53 (0,0))):=⟨by (with_reducible repeat (first|refine ych ?_ _|refine ycq ?_|refine ycg ?_ _));refine yf4 (cs:=#[.bool false,.int .i64 ((yar l1 x10_1).f1),.slice none 0 0]) ?_ 2 _ rfl;(with_reducible repeat (first|refine ych ?_ _|refine ycq ?_|refine ycg ?_ _));refine yf4 (cs:=#[.bool false,.int .i64 0,.slice none 0 0]) ?_ 1 _ rfl;(with_reducible repeat (first|refine ych ?_ _|refine ycq ?_|refine ycg ?_ _));refine yf4 (cs:=#[.bool false,.int .i64 0,.slice none 0 0]) ?_ 0 _ rfl;(with_reducible repeat (first|refine ych ?_ _|refine ycq ?_|refine ycg ?_ _));exact BK376.out⟩
          have n2_:yaa (Below w.heap.size w (((w23.setCell ⟨gb376,0,none⟩ (.bool false)).setCell ⟨gb376,1,none⟩ (.int .i64 ((yar l1 x10_1).f1))).setCell ⟨gb376,2,none⟩ (.slice A375_2 ((yar l1 x10_1).f2).length c375_2))):=⟨(have GE_:=GE376;zT)⟩
          (try clear HO_5)
          (try clear BK376)
          (try clear HB)
          generalize (((w23.setCell ⟨gb376,0,none⟩ (.bool false)).setCell ⟨gb376,1,none⟩ (.int .i64 ((yar l1 x10_1).f1))).setCell ⟨gb376,2,none⟩ (.slice A375_2 ((yar l1 x10_1).f2).length c375_2))=w25 at n0_ n1_ n2_ ⊢
          have HO_5:=n0_
          have BK376:=n1_
          have HB:=n2_
          clear n0_ n1_ n2_
          (try (rw[yq5 w25];generalize hq_:World.drewN w25 _=w25;have n0_:yaa (Kd.R (Kd.int .u8) 5 w25 w.heap.size (fun _=>True) u5 x5_1):=⟨by rw[← hq_];exact(zR HO_5.out)⟩;have n1_:yaa (w25.heap[gb376]?=some (.cells #[.bool false,.int .i64 ((yar l1 x10_1).f1),.slice A375_2 ((yar l1 x10_1).f2).length c375_2] 53 (0,0))):=⟨by rw[← hq_];exact(by (with_reducible repeat (first|refine ych ?_ _|refine ycq ?_|refine ycg ?_ _));exact BK376.out)⟩;have n2_:yaa (Below w.heap.size w w25):=⟨by rw[← hq_];exact(have GE_:=GE376;zT)⟩;clear HO_5 BK376 HB hq_;have HO_5:=n0_;have BK376:=n1_;have HB:=n2_;clear n0_ n1_ n2_))
          have n0_:=yaa.mk (Kd.R_drew HO_5.out)
          have n1_:=yaa.mk (ycq BK376.out)
          have n2_:=yaa.mk (ygq HB.out)
          clear HO_5
          clear BK376
          clear HB
          have HO_5:=n0_
          have BK376:=n1_
          have HB:=n2_
          clear n0_ n1_ n2_
          refine start_ (n:=11) (S:=fun w'=>w'.cell? ⟨gb376,0,none⟩=some (.bool false)∧w'.cell? ⟨gb376,1,none⟩=some (.int .i64 ((yar l1 x10_1).f1))∧w'.cell? ⟨gb376,2,none⟩=some (.slice A375_2 ((yar l1 x10_1).f2).length c375_2)) (ds:=[]) #[false,false,false,false,false,false,false,false,false,false,false] (by kernel_rfl) rfl rfl ⟨(yau BK376.out 0).trans rfl,(yau BK376.out 1).trans rfl,(yau BK376.out 2).trans rfl⟩ (fun hHeld=>?_);refine with_tabW ya4.tab5 ya4.bits5 (fun HT_ HW_=>?_)
          generalize w25.drew=w26 at HO_5 BK376 HB hHeld ⊢
          refine ykq (i:=0) (N:=some 14) (v:=?_) (a':=?_) #[true,false,false,false,false,false,false,false,false,false,false] rfl rfl (yjh HT_.out (by kernel_rfl)) (fun _ _ _ h=>h) (Or.inl ⟨by rfl,?_⟩) ?_ ?_
          rotate_left
          ·intro w'
           go_simp
           with_reducible rfl
          rotate_left
          ·simp only[Act.put,List.setIfInBounds_toArray,List.set_cons_zero,List.set_cons_succ,ybz,ycs]
           rfl
          refine ykq (i:=1) (N:=some 15) (v:=?_) (a':=?_) #[true,true,false,false,false,false,false,false,false,false,false] rfl rfl (yjh HT_.out (by kernel_rfl)) (fun _ _ _ h=>h) (Or.inl ⟨by rfl,?_⟩) ?_ ?_
          rotate_left
          ·intro w'
           go_simp
           with_reducible rfl
          rotate_left
          ·simp only[Act.put,List.setIfInBounds_toArray,List.set_cons_zero,List.set_cons_succ,ybz,ycs]
           rfl
          refine ykq (i:=7) (N:=some 21) (v:=?_) (a':=?_) #[true,true,false,false,false,false,false,true,false,false,false] rfl rfl (yjh HT_.out (by kernel_rfl)) (fun _ _ _ h=>h) (Or.inl ⟨by rfl,?_⟩) ?_ ?_
          rotate_left
          ·intro w'
           go_simp
           with_reducible rfl
          rotate_left
          ·simp only[Act.put,List.setIfInBounds_toArray,List.set_cons_zero,List.set_cons_succ,ybz,ycs]
           rfl
          refine take_ (i:=2) (N:=some 16) (v:=?_) (a':=?_) #[true,true,true,false,false,false,false,true,false,false,false] rfl rfl (yoy HT_.out HW_.out (by kernel_rfl)) (fun _ _ _ h=>h) (Or.inl ⟨by rfl,?_⟩) hHeld ?_ ?_
          rotate_left
          ·rintro w' ⟨s0,s1,s2⟩
           go_simp
           with_reducible rfl
          rotate_left
          ·simp only[Act.put,List.setIfInBounds_toArray,List.set_cons_zero,List.set_cons_succ,ybz,ycs]
           rfl
          refine ykq (i:=3) (N:=some 17) (v:=?_) (a':=?_) #[true,true,true,true,false,false,false,true,false,false,false] rfl rfl (yjh HT_.out (by kernel_rfl)) (fun _ _ _ h=>h) (Or.inl ⟨by rfl,?_⟩) ?_ ?_
          rotate_left
          ·intro w'
           go_simp
           with_reducible rfl
          rotate_left
          ·simp only[Act.put,List.setIfInBounds_toArray,List.set_cons_zero,List.set_cons_succ,ybz,ycs]
           rfl
          refine ykq (i:=4) (N:=some 18) (v:=?_) (a':=?_) #[true,true,true,true,true,false,false,true,false,false,false] rfl rfl (yjh HT_.out (by kernel_rfl)) (fun _ _ _ h=>h) (Or.inl ⟨by rfl,?_⟩) ?_ ?_
          rotate_left
          ·intro w'
           go_simp
           with_reducible rfl
          rotate_left
          ·simp only[Act.put,List.setIfInBounds_toArray,List.set_cons_zero,List.set_cons_succ,ybz,ycs]
           rfl
          refine take_ (i:=8) (N:=some 22) (v:=?_) (a':=?_) #[true,true,true,true,true,false,false,true,true,false,false] rfl rfl (yoy HT_.out HW_.out (by kernel_rfl)) (fun _ _ _ h=>h) (Or.inl ⟨by rfl,?_⟩) hHeld ?_ ?_
          rotate_left
          ·rintro w' ⟨s0,s1,s2⟩
           go_simp
           with_reducible rfl
          rotate_left
          ·simp only[Act.put,List.setIfInBounds_toArray,List.set_cons_zero,List.set_cons_succ,ybz,ycs]
           rfl
          refine one_ (i:=5) (N:=some 19) #[true,true,true,true,true,true,false,true,true,false,false] rfl rfl (one_of HT_.out (by kernel_rfl)) (by decide) (fun K hK=>?_)
          refine goes_ Tryz.func52 (by kernel_rfl) rfl #[.int .u64 (IntKind.u64.wrap ((((yar l1 x10_1).f2).length:Int)))] (by rfl) rfl rfl zE ?_
          with_reducible refine(ya0.calls k1 (IntKind.u64.wrap ((((yar l1 x10_1).f2).length:Int))) t385 _ A20.out).mono ?_
          rintro e w27 ⟨v386,rfl,ho0,hb⟩
          refine⟨_,rfl,?_⟩
          have n0_:=yaa.mk (Kd.R_elder' (zR HO_5.out) (Kd.R_base ho0) hb)
          have n1_:=yaa.mk (Kd.R_lower (Kd.R_new' ho0 (Kd.R_lt (zR HO_5.out))) (yaf (have GE_:=GE376;zT)))
          have n2_:=yaa.mk (yiu (g:=gb376) (o:=.cells #[.bool false,.int .i64 ((yar l1 x10_1).f1),.slice A375_2 ((yar l1 x10_1).f2).length c375_2] 53 (0,0)) (by (with_reducible repeat (first|refine ych ?_ _|refine ycq ?_|refine ycg ?_ _));exact BK376.out) hb)
          have n3_:=yaa.mk (yai (have GE_:=GE376;zT) hb)
          clear HO_5
          clear BK376
          clear HB
          have HO_5:=n0_
          have HO387:=n1_
          have BK376:=n2_
          have HB:=n3_
          clear n0_ n1_ n2_ n3_
          (try clear hb)
          (try clear hb2)
          (try clear hk)
          (try clear hi)
          (try clear ho0)
          obtain⟨Ao29,co29,eo29⟩:=Kd.R_slice HO387.out
          (first|subst eo29|(injection eo29 with f1_ f2_ f3_;have f4_:=f1_.symm;have f5_:=f3_.symm;clear f1_ f2_ f3_;subst f4_;subst f5_))
          refine hK.out _ _ ⟨(yau BK376.out 0).trans rfl,(yau BK376.out 1).trans rfl,(yau BK376.out 2).trans rfl⟩ (fun hHeld=>?_)
          clear hK K
          refine norm_ (a':=?_) ?_ ?_
          rotate_left
          ·show Act.put _ (some 19) _=_
           simp only[Act.put,List.setIfInBounds_toArray,List.set_cons_zero,List.set_cons_succ,ybz,ycs]
           rfl
          refine one_ (i:=6) (N:=some 20) #[true,true,true,true,true,true,true,true,true,false,false] rfl rfl (one_of HT_.out (by kernel_rfl)) (by decide) (fun K hK=>?_)
          refine Kd.R_append_rows_step (Kd.int .u8) (w0:=w) w.heap.size (by rfl) (.tmp 14) (.tmp 19) 25 5 (.int .u8 0) 1 rfl Tryz.underlying25 ycj rfl (by decide) (by omega) u5 x5_1 t385 _ _ _ (fun k_=>some k_≠(.slice Ao29 t385.length co29:Value).ownBlock) (fun _=>False) rfl rfl ?aO ?aR (fun _ _ h=>h) (fun _ h=>h.elim) ?aF ?aB ?aS ?aL ?_
          (case aR=>exact zC (Kd.R_reads' HO387.out).2.2)
          (case aB=>exact(have GE_:=GE376;zT))
          (case aF=>exact(fun k_ hk=>Kd.fresh' (Kd.R_lt (zR HO387.out)) k_ hk))
          (case aO=>exact(by (with_reducible repeat (first|apply Kd.R_alloc|apply Kd.R_drewN|apply Kd.R_drew));exact Kd.R_mono HO_5.out (fun _ hk=>hk.2)))
          (case aS=>exact(yaf (have GE_:=GE376;zT)))
          (case aL=>have:=LMc21.out;omega)
          intro v389 w28 ho hb hg hat
          rw[← Ny388.out] at ho
          have n0_:=yaa.mk (yhe (g:=gb376) (o:=.cells #[.bool false,.int .i64 ((yar l1 x10_1).f1),.slice A375_2 ((yar l1 x10_1).f2).length c375_2] 53 (0,0)) (by (with_reducible repeat (first|refine ych ?_ _|refine ycq ?_|refine ycg ?_ _));exact BK376.out) hg (Kd.R_ne HO_5.out BK376.out (by decide)))
          have n1_:=yaa.mk (Kd.R_after (ok:=(fun _=>True)) (zR HO387.out) hg hat)
          have n2_:=yaa.mk (hb)
          have n3_:=yaa.mk (ho)
          clear BK376
          clear HO387
          clear HB
          clear HO_5
          have BK376:=n0_
          have HO387:=n1_
          have HB:=n2_
          have HO390:=n3_
          clear n0_ n1_ n2_ n3_
          clear ho hb hg hat
          refine hK.out _ _ ⟨(yau BK376.out 0).trans rfl,(yau BK376.out 1).trans rfl,(yau BK376.out 2).trans rfl⟩ (fun hHeld=>?_)
          clear hK K
          refine norm_ (a':=?_) ?_ ?_
          rotate_left
          ·show Act.put _ (some 20) _=_
           simp only[Act.put,List.setIfInBounds_toArray,List.set_cons_zero,List.set_cons_succ,ybz,ycs]
           rfl
          refine one_ (i:=9) (N:=some 23) #[true,true,true,true,true,true,true,true,true,true,false] rfl rfl (one_of HT_.out (by kernel_rfl)) (by decide) (fun K hK=>?_)
          refine Kd.R_append_rows_step (Kd.int .u8) (w0:=w) w.heap.size (by rfl) (.tmp 20) (.tmp 22) 25 5 (.int .u8 0) 1 rfl Tryz.underlying25 ycj rfl (by decide) (by omega) v389 y388 ((yar l1 x10_1).f2) _ _ _ (fun k_=>some k_≠(.slice Ao29 t385.length co29:Value).ownBlock) (fun _=>False) rfl rfl ?aO ?aR (fun _ _ h=>h) (fun _ h=>h.elim) ?aF ?aB ?aS ?aL ?_
          (case aR=>exact zC (Kd.C_below HR375_2.out HB.out))
          (case aB=>exact(have GE_:=GE376;zT))
          (case aF=>exact(fun k_ hk=>Kd.fresh' (Kd.R_lt (zR HO387.out)) k_ hk))
          (case aO=>exact(zR HO390.out))
          (case aS=>exact(yaf (have GE_:=GE376;zT)))
          (case aL=>have:=LMc22.out;omega)
          intro v392 w30 ho hb hg hat
          rw[← Ny391.out] at ho
          have n0_:=yaa.mk (yhe (g:=gb376) (o:=.cells #[.bool false,.int .i64 ((yar l1 x10_1).f1),.slice A375_2 ((yar l1 x10_1).f2).length c375_2] 53 (0,0)) (by (with_reducible repeat (first|refine ych ?_ _|refine ycq ?_|refine ycg ?_ _));exact BK376.out) hg (Kd.R_ne HO390.out BK376.out (by decide)))
          have n1_:=yaa.mk (Kd.R_after (ok:=(fun _=>True)) (zR HO387.out) hg hat)
          have n2_:=yaa.mk (hb)
          have n3_:=yaa.mk (ho)
          clear BK376
          clear HO387
          clear HB
          clear HO390
          have BK376:=n0_
          have HO387:=n1_
          have HB:=n2_
          have HO393:=n3_
          clear n0_ n1_ n2_ n3_
          clear ho hb hg hat
          refine hK.out _ _ ⟨(yau BK376.out 0).trans rfl,(yau BK376.out 1).trans rfl,(yau BK376.out 2).trans rfl⟩ (fun hHeld=>?_)
          clear hK K
          refine norm_ (a':=?_) ?_ ?_
          rotate_left
          ·show Act.put _ (some 23) _=_
           simp only[Act.put,List.setIfInBounds_toArray,List.set_cons_zero,List.set_cons_succ,ybz,ycs]
           rfl
          refine ykq (i:=10) (N:=some 5) (v:=?_) (a':=?_) #[true,true,true,true,true,true,true,true,true,true,true] rfl rfl (yjh HT_.out (by kernel_rfl)) (fun _ _ _ h=>h) (Or.inl ⟨by rfl,?_⟩) ?_ ?_
          rotate_left
          ·intro w'
           go_simp
           with_reducible rfl
          rotate_left
          ·simp only[Act.put,List.setIfInBounds_toArray,List.set_cons_zero,List.set_cons_succ,ybz,ycs]
           rfl
          refine done_ (done_of HT_.out (by kernel_rfl)) ?_
          try go_wp2
          go_roundg k1
          case measure=>have:=HK1.out;omega
          case rel=>exact⟨(y391),(wrap64 (x10_1+1)),zF,H',⟨by have:=HK1.out;omega⟩,⟨by (with_reducible repeat (first|apply Kd.R_alloc|apply Kd.R_drewN|apply Kd.R_drew));exact Kd.R_mono HO393.out (fun _ hk=>trivial)⟩,⟨(have GE_:=GE376;zT)⟩⟩
         ·rw[if_neg c22] at H
          exact absurd H (by simp)
        ·rw[if_neg c21] at H
         exact absurd H (by simp)
     ·rw[if_neg c5] at H
      exact absurd H (by simp)
    ·rw[if_neg c4] at H
     exact absurd H (by simp)
   ·rw[if_neg c3] at H
    have c3b0:=decide_eq_false c3
    clear c3
    obtain rfl:=Option.some.inj H
    go_wp2
    go_ret
    exact⟨_,zG,zR HO_5.out,zB⟩
def yhr.f (a0:Int):Option (Int):=if (Go.bits .and .u32 a0 1)=0 then (some (a0 / 2)) else (some (Go.bits .xor .u32 (a0 / 2) 2197175160))
theorem yhr.calls (a0:Int) (r:Int) (w:World) (h:yhr.f a0=some r) :
  Calls Tryz.prog 144 #[.int .u32 a0] w fun e w'=>e=.returned (.int .u32 r)∧yap w w':=by
 have H:(if (Go.bits .and .u32 a0 1)=0 then (some (a0 / 2)) else (some (Go.bits .xor .u32 (a0 / 2) 2197175160)))=some r:=h
 clear h
 by_cases c2:(Go.bits .and .u32 a0 1)=0
 ·rw[if_pos c2] at H
  have c2b0:((Go.bits .and .u32 a0 1) == 0)=true:=beq_iff_eq.mpr c2
  have c2b1:((Go.bits .and .u32 a0 1) != 0)=false:=bne_eq_false_iff_eq.mpr c2
  clear c2
  obtain rfl:=Option.some.inj H
  go_enter Tryz.func144,Tryz.ntmps144
  go_wp2
  go_ret
  exact⟨zF,zD⟩
 ·rw[if_neg c2] at H
  have c2b0:((Go.bits .and .u32 a0 1) == 0)=false:=beq_eq_false_iff_ne.mpr c2
  have c2b1:((Go.bits .and .u32 a0 1) != 0)=true:=bne_iff_ne.mpr c2
  obtain rfl:=Option.some.inj H
  go_enter Tryz.func144,Tryz.ntmps144
  go_wp2
  go_ret
  exact⟨zF,zD⟩
def yen.l0:Nat→Int→Int→Option (Int)
 | 0,_,_=>none
 | k+1,x0,x9=>if x9<8 then ((yhr.f x0).bind fun t404=>(yen.l0 k t404 (wrap64 (x9+1)))) else (some x0)
def yen.f (k:Nat) (a0:Int) (a1:Int):Option (Int):=yen.l0 k (Go.bits .xor .u32 a0 ((a1)%4294967296)) 0
theorem yen.calls (k:Nat) (a0:Int) (a1:Int) (r:Int) (w:World) (h:yen.f k a0 a1=some r) :
  Calls Tryz.prog 135 #[.int .u32 a0,.int .u8 a1] w fun e w'=>e=.returned (.int .u32 r)∧yap w w':=by
 have H:(yen.l0 k (Go.bits .xor .u32 a0 ((a1)%4294967296)) 0)=some r:=h
 clear h
 have H':=yaa.mk H
 clear H
 go_enter Tryz.func135,Tryz.ntmps135
 go_wp2
 go_loopg [0,9] k (fun kq v0 v9 w'=>∃ (x0_1:Int) (x9_1:Int),v0=.int .u32 x0_1∧v9=.int .i64 x9_1∧yaa (yen.l0 kq x0_1 x9_1=some r)∧yaa (kq≤k)∧yap w w')
 case atStart=>exact⟨(Go.bits .xor .u32 a0 ((a1)%4294967296)),(0),zF,zF,H',⟨Nat.le_refl _⟩,zD⟩
 case round =>
  clear H'
  try clear c1
  try clear p2
  obtain⟨x0_1,x9_1,rfl,rfl,HA,HK1,⟨m1,rfl⟩⟩:=hrel
  cases gk with
  | zero=>exact absurd HA.out (by simp [yen.l0])
  | succ k1 =>
   have H:=HA.out
   clear HA
   simp only[yen.l0] at H
   by_cases c3:x9_1<8
   ·rw[if_pos c3] at H
    have c3b0:=decide_eq_true c3
    clear c3
    replace H:=Option.bind_eq_some_iff.mp H
    obtain⟨t404,A40,H⟩:=H
    try dsimp only at H
    have A4:=yaa.mk A40
    clear A40
    have H':=yaa.mk H
    clear H
    go_wp2_with (first|((with_reducible refine yad (f:=144) rfl ?_);refine yak (some 12) rfl rfl Tryz.func144 (by kernel_rfl) rfl #[.int .u32 x0_1] rfl zE ?_;(with_reducible refine(yhr.calls x0_1 t404 _ A4.out).mono ?_);rintro e w' ⟨rfl,⟨nd,rfl⟩⟩;refine⟨_,rfl,?_⟩))
    go_roundg k1
    case measure=>have:=HK1.out;omega
    case rel=>exact⟨(t404),(wrap64 (x9_1+1)),zF,zF,H',⟨by have:=HK1.out;omega⟩,zD⟩
   ·rw[if_neg c3] at H
    have c3b0:=decide_eq_false c3
    clear c3
    obtain rfl:=Option.some.inj H
    go_wp2
    go_ret
    exact⟨zF,zD⟩
def ya3.l0:Nat→List Int→List Int→Int→Option (Bool)
 | 0,_,_,_=>none
 | k+1,x0,x1,x5=>if x5<(x0.length:Int) then (if 0≤x5 then (if x5<(x1.length:Int) then (if (rd x0 x5)=(rd x1 x5) then (ya3.l0 k x0 x1 (wrap64 (x5+1))) else (some false)) else (none)) else (none)) else (some true)
def ya3.f (k:Nat) (l0:List Int) (l1:List Int):Option (Bool):=if (l0.length:Int)=(l1.length:Int) then (ya3.l0 k l0 l1 0) else (some false)
theorem ya3.mono_l:∀ k,(∀ y0 y1 y2,LeO (ya3.l0 k y0 y1 y2) (ya3.l0 (k+1) y0 y1 y2))
 | 0=>fun _ _ _ r h=>by simp [ya3.l0] at h
 | k+1=>by
  have ih0:=ya3.mono_l k
  ·intro y0 y1 y2
   unfold ya3.l0
   repeat' first
   | (with_reducible exact ih0 _ _ _)
   | (with_reducible exact LeO.refl _)
   | (with_reducible exact LeO.none _)
   | (with_reducible refine LeO.ite ?_ ?_)
   | (with_reducible refine LeO.bind ?_ (fun _=>?_))
theorem ya3.mono:∀ a0 a1 k,LeO (ya3.f k a0 a1) (ya3.f (k+1) a0 a1):=by
 intro a0 a1 k
 have ih0:=ya3.mono_l k
 unfold ya3.f
 repeat' first
   | (with_reducible exact ih0 _ _ _)
   | (with_reducible exact LeO.refl _)
   | (with_reducible exact LeO.none _)
   | (with_reducible refine LeO.ite ?_ ?_)
   | (with_reducible refine LeO.bind ?_ (fun _=>?_))
theorem ya3.calls (k:Nat) (A0:Option Addr) (c0:Nat) (l0:List Int) (A1:Option Addr) (c1:Nat) (l1:List Int) (r:Bool) (w:World) (hr0:Kd.C (Kd.int .u8) w A0 l0.length l0) (hc0:l0.length≤c0) (hr1:Kd.C (Kd.int .u8) w A1 l1.length l1) (hc1:l1.length≤c1) (h:ya3.f k l0 l1=some r) :
  Calls Tryz.prog 17 #[.slice A0 l0.length c0,.slice A1 l1.length c1] w fun e w'=>e=.returned (.bool r)∧yap w w':=by
 have HR0:=yaa.mk hr0
 have HC0:=yaa.mk hc0
 clear hr0 hc0
 have HR1:=yaa.mk hr1
 have HC1:=yaa.mk hc1
 clear hr1 hc1
 have H:(if (l0.length:Int)=(l1.length:Int) then (ya3.l0 k l0 l1 0) else (some false))=some r:=h
 clear h
 by_cases c3:(l0.length:Int)=(l1.length:Int)
 ·rw[if_pos c3] at H
  have c3b0:((l0.length:Int) == (l1.length:Int))=true:=beq_iff_eq.mpr c3
  have c3b1:((l0.length:Int) != (l1.length:Int))=false:=bne_eq_false_iff_eq.mpr c3
  have c3b2:(l0.length == l1.length)=true:=by first|simpa using c3|(simp at c3 ⊢;omega)
  clear c3
  have H':=yaa.mk H
  clear H
  go_enter Tryz.func17,Tryz.ntmps17
  go_wp2
  repeat (go_quiet (fail);try go_wp2)
  go_loopg [5] k (fun kq v5 w'=>∃ (x5_1:Int),v5=.int .i64 x5_1∧yaa (ya3.l0 kq l0 l1 x5_1=some r)∧yaa (kq≤k)∧yap w w')
  case atStart=>exact⟨(0),zF,H',⟨Nat.le_refl _⟩,zD⟩
  case round =>
   clear H'
   try clear c1
   try clear p2
   try clear c3
   try clear c3b0
   try clear c3b1
   try clear c3b2
   obtain⟨x5_1,rfl,HA,HK1,⟨m1,rfl⟩⟩:=hrel
   cases gk with
   | zero=>exact absurd HA.out (by simp [ya3.l0])
   | succ k1 =>
    have H:=HA.out
    clear HA
    simp only[ya3.l0] at H
    by_cases c4:x5_1<(l0.length:Int)
    ·rw[if_pos c4] at H
     have c4b0:=decide_eq_true c4
     clear c4
     by_cases c5:0≤x5_1
     ·rw[if_pos c5] at H
      have c5b0:=decide_eq_true c5
      clear c5
      by_cases c6:x5_1<(l1.length:Int)
      ·rw[if_pos c6] at H
       have c6b0:=decide_eq_true c6
       clear c6
       by_cases c7:(rd l0 x5_1)=(rd l1 x5_1)
       ·rw[if_pos c7] at H
        have c7b0:((rd l0 x5_1) == (rd l1 x5_1))=true:=beq_iff_eq.mpr c7
        have c7b1:((rd l0 x5_1) != (rd l1 x5_1))=false:=bne_eq_false_iff_eq.mpr c7
        clear c7
        have H':=yaa.mk H
        clear H
        have p427:0≤(x5_1:Int):=of_decide_eq_true zA
        have q427:x5_1<(l0.length:Int):=of_decide_eq_true zA
        obtain⟨ad427,e427,hx427_0⟩:=Kd.at_int HR0.out x5_1 p427 q427
        cases e427
        replace p427:=eq_true p427
        replace q427:=eq_true q427
        have p428:0≤(x5_1:Int):=of_decide_eq_true zA
        have q428:x5_1<(l1.length:Int):=of_decide_eq_true zA
        obtain⟨ad428,e428,hx428_0⟩:=Kd.at_int HR1.out x5_1 p428 q428
        cases e428
        replace p428:=eq_true p428
        replace q428:=eq_true q428
        go_wp2
        repeat (go_quiet (fail);try go_wp2)
        go_roundg k1
        case measure=>have:=HK1.out;omega
        case rel=>exact⟨(wrap64 (x5_1+1)),zF,H',⟨by have:=HK1.out;omega⟩,zD⟩
       ·rw[if_neg c7] at H
        have c7b0:((rd l0 x5_1) == (rd l1 x5_1))=false:=beq_eq_false_iff_ne.mpr c7
        have c7b1:((rd l0 x5_1) != (rd l1 x5_1))=true:=bne_iff_ne.mpr c7
        obtain rfl:=Option.some.inj H
        have p427:0≤(x5_1:Int):=of_decide_eq_true zA
        have q427:x5_1<(l0.length:Int):=of_decide_eq_true zA
        obtain⟨ad427,e427,hx427_0⟩:=Kd.at_int HR0.out x5_1 p427 q427
        cases e427
        replace p427:=eq_true p427
        replace q427:=eq_true q427
        have p428:0≤(x5_1:Int):=of_decide_eq_true zA
        have q428:x5_1<(l1.length:Int):=of_decide_eq_true zA
        obtain⟨ad428,e428,hx428_0⟩:=Kd.at_int HR1.out x5_1 p428 q428
        cases e428
        replace p428:=eq_true p428
        replace q428:=eq_true q428
        go_wp2
        repeat (go_quiet (fail);try go_wp2)
        go_ret
        exact⟨zF,zD⟩
      ·rw[if_neg c6] at H
       exact absurd H (by simp)
     ·rw[if_neg c5] at H
      exact absurd H (by simp)
    ·rw[if_neg c4] at H
     have c4b0:=decide_eq_false c4
     clear c4
     obtain rfl:=Option.some.inj H
     go_wp2
     repeat (go_quiet (fail);try go_wp2)
     go_ret
     exact⟨zF,zD⟩
 ·rw[if_neg c3] at H
  have c3b0:((l0.length:Int) == (l1.length:Int))=false:=beq_eq_false_iff_ne.mpr c3
  have c3b1:((l0.length:Int) != (l1.length:Int))=true:=bne_iff_ne.mpr c3
  have c3b2:(l0.length == l1.length)=false:=by first|simpa using c3|(simp at c3 ⊢;omega)
  obtain rfl:=Option.some.inj H
  go_enter Tryz.func17,Tryz.ntmps17
  go_wp2
  repeat (go_quiet (fail);try go_wp2)
  go_ret
  exact⟨zF,zD⟩
end Go.Proofs.YteeikgjjgfdjgaaGreat.PK
end
section
namespace Go.Proofs.YteeikgjjgfdjgaaGreat.PK
open Go.RowKit YteeikgjjgfdjgaaGreatW.PrintWords YteeikgjjgfdjgaaGreatW.PrintLast YteeikgjjgfdjgaaGreatW.PrintMore
attribute [local go_sem] yce ycf ycu ycv yb8 yb7 ycm yco
set_option linter.unusedVariables false
set_option linter.unusedSimpArgs false
mutual
def ydy.j0:Nat→List (List Int)→List Int→Int→Bool→Option ((List (List Int)))
 | 0,_,_,_,_=>none
 | k+1,x0,x1,x5,x23=>if x23=true then (some x0) else (ydy.l0 k x0 x1 x5 (([]:List (List Int))) 0)
def ydy.l0:Nat→List (List Int)→List Int→Int→List (List Int)→Int→Option ((List (List Int)))
 | 0,_,_,_,_,_=>none
 | k+1,x0,x1,x5,x6,x7=>if x7<x5 then (if 0≤x7 then (if x7<(x0.length:Int) then (if x6.length<5864062014805 then (ydy.l0 k x0 x1 x5 (x6++[ydn x0 x7]) (wrap64 (x7+1))) else (none)) else (none)) else (none)) else ((yay.f k x1).bind fun t731=>(if x6.length<5864062014805 then (ydy.l1 k x0 (x6++[t731]) x5) else (none)))
def ydy.l1:Nat→List (List Int)→List (List Int)→Int→Option ((List (List Int)))
 | 0,_,_,_=>none
 | k+1,x0,x6,x8=>if x8<(x0.length:Int) then (if 0≤x8 then (if x6.length<5864062014805 then (ydy.l1 k x0 (x6++[ydn x0 x8]) (wrap64 (x8+1))) else (none)) else (none)) else (some x6)
end
def ydy.f (k:Nat) (l0:List (List Int)) (l1:List Int):Option ((List (List Int))):=(yfa.f k l0 l1).bind fun t721=>(if t721<(l0.length:Int) then (if 0≤t721 then ((ya3.f k (ydn l0 t721) l1).bind fun t723=>(ydy.j0 k l0 l1 t721 t723)) else (none)) else (ydy.j0 k l0 l1 t721 false))
mutual
def yez.l0:Nat→List (List Int)→List (List Int)→Int→Option ((List (List Int))×List Int×Int)
 | 0,_,_,_=>none
 | k+1,x0,x5,x6=>if x6<(x0.length:Int) then (if 0≤x6 then (if ((ydn x0 x6).length:Int) > 200 then (some (([]:List (List Int)),([]:List Int),4)) else ((ydy.f k x5 (ydn x0 x6)).bind fun t746=>(yez.l0 k x0 t746 (wrap64 (x6+1))))) else (none)) else (yez.l1 k x0 x5 (([]:List Int)) 0)
def yez.l1:Nat→List (List Int)→List (List Int)→List Int→Int→Option ((List (List Int))×List Int×Int)
 | 0,_,_,_,_=>none
 | k+1,x0,x5,x7,x8=>if x8<(x0.length:Int) then (if 0≤x8 then ((yfa.f k x5 (ydn x0 x8)).bind fun t753=>(if x7.length<17592186044416 then (yez.l1 k x0 x5 (x7++[t753]) (wrap64 (x8+1))) else (none))) else (none)) else (some (x5,x7,0))
end
def yez.f (k:Nat) (l0:List (List Int)):Option ((List (List Int))×List Int×Int):=if (l0.length:Int) > 4096 then (some (([]:List (List Int)),([]:List Int),4)) else (yez.l0 k l0 (([]:List (List Int))) 0)
end Go.Proofs.YteeikgjjgfdjgaaGreat.PK
end
