/-
  Parts of the proof: E16, E17, E18, E27.
-/
import Derived.Test.YteeikgjjgfdjgaaGreatU17
set_option maxHeartbeats 8000000
set_option maxRecDepth 100000
section
namespace Go.Proofs.YteeikgjjgfdjgaaGreat.PK
open Go.RowKit YteeikgjjgfdjgaaGreatW.PrintWords YteeikgjjgfdjgaaGreatW.PrintLast YteeikgjjgfdjgaaGreatW.PrintMore
attribute [local go_sem] yco ycp yc5 yc4 yck ycl ycs yct
set_option linter.unusedVariables false
set_option linter.unusedSimpArgs false
mutual
def yaw.l0:Nat→List (List Int)→List Int→Int→Option (List Int×Int)
 | 0,_,_,_=>none
 | k+1,x0,x4,x5=>if x5<(x0.length:Int) then (if 0≤x5 then (if ((ybb x0 x5).length:Int) > 200 then (some (([]:List Int),4)) else (yaw.l0 k x0 x4 (wrap64 (x5+1)))) else (none)) else (yaw.l1 k x0 x4 0)
def yaw.l1:Nat→List (List Int)→List Int→Int→Option (List Int×Int)
 | 0,_,_,_=>none
 | k+1,x0,x4,x6=>if x6<(x0.length:Int) then (if (Int.tmod x6 16)=0 then (yaw.j2 k x0 x4 x6 0) else (if 0≤(wrap64 (x6-1)) then (if (wrap64 (x6-1))<(x0.length:Int) then (if 0≤x6 then ((ybt.f k (ybb x0 (wrap64 (x6-1))) (ybb x0 x6)).bind fun t811=>(yaw.j2 k x0 x4 x6 t811)) else (none)) else (none)) else (none))) else (some (x4,0))
def yaw.j2:Nat→List (List Int)→List Int→Int→Int→Option (List Int×Int)
 | 0,_,_,_,_=>none
 | k+1,x0,x4,x6,x7=>(yae.f k (IntKind.u64.wrap (x7))).bind fun t812=>((ybd.f k x4 t812).bind fun t815=>(if 0≤x6 then (if x6<(x0.length:Int) then ((yae.f k (IntKind.u64.wrap (wrap64 (((ybb x0 x6).length:Int)-x7)))).bind fun t819=>((ybd.f k t815 t819).bind fun t822=>(if 0≤x7 then (if x7≤((ybb x0 x6).length:Int) then ((ybd.f k t822 ((ybb x0 x6).drop (x7:Int).toNat)).bind fun t827=>(yaw.l1 k x0 t827 (wrap64 (x6+1)))) else (none)) else (none)))) else (none)) else (none)))
end
def yaw.f (k:Nat) (l0:List (List Int)):Option (List Int×Int):=if (l0.length:Int) > 4096 then (some (([]:List Int),4)) else ((yae.f k (IntKind.u64.wrap ((l0.length:Int)))).bind fun t805=>(yaw.l0 k l0 t805 0))
theorem yaw.calls (k:Nat) (A0:Option Addr) (c0:Nat) (l0:List (List Int)) (r1:List Int) (r2:Int) (w:World) (hr0:Kd.C (Kd.slice 5 (Kd.int .u8)) w A0 l0.length l0) (hc0:l0.length≤c0) (h:yaw.f k l0=some (r1,r2)) :
  Calls Tryz.prog 99 #[.slice A0 l0.length c0] w fun e w'=>∃ v0_:Value,e=.returned (.tuple #[v0_,.int .i64 r2])∧Kd.R (Kd.int .u8) 5 w' w.heap.size (fun _=>True) v0_ r1∧Below w.heap.size w w':=by
 have HR0:=yaa.mk hr0
 have HC0:=yaa.mk hc0
 clear hr0 hc0
 have HB:=yaa.mk (Below.refl w.heap.size w)
 have H:(if (l0.length:Int) > 4096 then (some (([]:List Int),4)) else ((yae.f k (IntKind.u64.wrap ((l0.length:Int)))).bind fun t805=>(yaw.l0 k l0 t805 0)))=some (r1,r2):=h
 clear h
 by_cases c2:(l0.length:Int) > 4096
 ·rw[if_pos c2] at H
  have c2b0:decide (4096<(l0.length:Int))=true:=decide_eq_true c2
  have c2b1:decide (4096<l0.length)=true:=decide_eq_true (by omega)
  clear c2
  simp only[Option.some.injEq,Prod.mk.injEq] at H
  obtain⟨rfl,rfl⟩:=H
  go_enter Tryz.func99,Tryz.ntmps99
  go_wp2
  repeat (go_quiet (fail);try go_wp2)
  go_ret2
  exact⟨_,zG,zN,zB⟩
 ·rw[if_neg c2] at H
  have c2b0:decide (4096<(l0.length:Int))=false:=decide_eq_false c2
  have c2b1:decide (4096<l0.length)=false:=decide_eq_false (by omega)
  clear c2
  replace H:=Option.bind_eq_some_iff.mp H
  obtain⟨t805,A30,H⟩:=H
  try dsimp only at H
  have A3:=yaa.mk A30
  clear A30
  have H':=yaa.mk H
  clear H
  go_enter Tryz.func99,Tryz.ntmps99
  go_wp2_with (first|(go_at_call 58;(with_reducible refine(yae.calls k (IntKind.u64.wrap ((l0.length:Int))) t805 _ A3.out).mono ?_);rintro e w4 ⟨v806,rfl,ho0,hb⟩;have n0_:=yaa.mk (Kd.R_lower ho0 (yac zB));have n1_:=yaa.mk (yai zB hb);clear HB;have HO807:=n0_;have HB:=n1_;clear n0_ n1_;(try clear hb);(try clear hb2);(try clear hk);(try clear hi);(try clear ho0)))
  repeat (go_quiet (first|(go_at_call 58;(with_reducible refine(yae.calls k (IntKind.u64.wrap ((l0.length:Int))) t805 _ A3.out).mono ?_);rintro e w4 ⟨v806,rfl,ho0,hb⟩;have n0_:=yaa.mk (Kd.R_lower ho0 (yac zB));have n1_:=yaa.mk (yai zB hb);clear HB;have HO807:=n0_;have HB:=n1_;clear n0_ n1_;(try clear hb);(try clear hb2);(try clear hk);(try clear hi);(try clear ho0)));try go_wp2_with (first|(go_at_call 58;(with_reducible refine(yae.calls k (IntKind.u64.wrap ((l0.length:Int))) t805 _ A3.out).mono ?_);rintro e w4 ⟨v806,rfl,ho0,hb⟩;have n0_:=yaa.mk (Kd.R_lower ho0 (yac zB));have n1_:=yaa.mk (yai zB hb);clear HB;have HO807:=n0_;have HB:=n1_;clear n0_ n1_;(try clear hb);(try clear hb2);(try clear hk);(try clear hi);(try clear ho0))))
  go_loopg [5] k (fun kq v5 w'=>∃ (x5_1:Int),v5=.int .i64 x5_1∧yaa (yaw.l0 kq l0 t805 x5_1=some (r1,r2))∧yaa (kq≤k)∧yaa (Kd.R (Kd.int .u8) 5 w' w.heap.size (fun _=>True) v806 t805)∧yaa (Below w.heap.size w w'))
  case atStart=>exact⟨(0),zF,H',⟨Nat.le_refl _⟩,⟨zR HO807.out⟩,⟨zB⟩⟩
  case round =>
   clear H'
   try clear c2
   try clear c2b0
   try clear c2b1
   try clear p2
   obtain⟨x5_1,rfl,HA,HK1,HO_4,HB⟩:=hrel
   cases gk with
   | zero=>exact absurd HA.out (by simp [yaw.l0])
   | succ k1 =>
    have H:=HA.out
    clear HA
    simp only[yaw.l0] at H
    by_cases c5:x5_1<(l0.length:Int)
    ·rw[if_pos c5] at H
     have c5b0:=decide_eq_true c5
     clear c5
     by_cases c6:0≤x5_1
     ·rw[if_pos c6] at H
      have c6b0:=decide_eq_true c6
      clear c6
      by_cases c7:((ybb l0 x5_1).length:Int) > 200
      ·rw[if_pos c7] at H
       have c7b0:decide (200<((ybb l0 x5_1).length:Int))=true:=decide_eq_true c7
       have c7b1:decide (200<(ybb l0 x5_1).length)=true:=decide_eq_true (by omega)
       clear c7
       simp only[Option.some.injEq,Prod.mk.injEq] at H
       obtain⟨rfl,rfl⟩:=H
       have p808:0≤(x5_1:Int):=of_decide_eq_true zA
       have q808:x5_1<(l0.length:Int):=of_decide_eq_true zA
       obtain⟨ad808,A808_0,c808_0,e808,hx808_0,hl808_0,hi808_0⟩:=yd8 HR0.out x5_1 p808 q808
       cases e808
       replace hx808_0:=(HB.out.cell (World.block_lt_of_cell? w _ hx808_0)).trans hx808_0
       have HR808_0:=yaa.mk hi808_0
       have HC808_0:=yaa.mk hl808_0
       clear hi808_0 hl808_0
       replace p808:=eq_true p808
       replace q808:=eq_true q808
       go_wp2
       repeat (go_quiet (fail);try go_wp2)
       go_ret2
       exact⟨_,zG,zN,zB⟩
      ·rw[if_neg c7] at H
       have c7b0:decide (200<((ybb l0 x5_1).length:Int))=false:=decide_eq_false c7
       have c7b1:decide (200<(ybb l0 x5_1).length)=false:=decide_eq_false (by omega)
       clear c7
       have H':=yaa.mk H
       clear H
       have p808:0≤(x5_1:Int):=of_decide_eq_true zA
       have q808:x5_1<(l0.length:Int):=of_decide_eq_true zA
       obtain⟨ad808,A808_0,c808_0,e808,hx808_0,hl808_0,hi808_0⟩:=yd8 HR0.out x5_1 p808 q808
       cases e808
       replace hx808_0:=(HB.out.cell (World.block_lt_of_cell? w _ hx808_0)).trans hx808_0
       have HR808_0:=yaa.mk hi808_0
       have HC808_0:=yaa.mk hl808_0
       clear hi808_0 hl808_0
       replace p808:=eq_true p808
       replace q808:=eq_true q808
       go_wp2
       repeat (go_quiet (fail);try go_wp2)
       go_roundg k1
       case measure=>have:=HK1.out;omega
       case rel=>exact⟨(wrap64 (x5_1+1)),zF,H',⟨by have:=HK1.out;omega⟩,⟨zR HO_4.out⟩,⟨zB⟩⟩
     ·rw[if_neg c6] at H
      exact absurd H (by simp)
    ·rw[if_neg c5] at H
     have c5b0:=decide_eq_false c5
     clear c5
     have H':=yaa.mk H
     clear H
     go_wp2
     repeat (go_quiet (fail);try go_wp2)
     go_loopg [4,6] k1 (fun kq v4 v6 w'=>∃ (x4_2:List Int) (x6_2:Int),v6=.int .i64 x6_2∧yaa (yaw.l1 kq l0 x4_2 x6_2=some (r1,r2))∧yaa (kq≤k1)∧yaa (Kd.R (Kd.int .u8) 5 w' w.heap.size (fun _=>True) v4 x4_2)∧yaa (Below w.heap.size w w'))
     case atStart=>exact⟨(t805),(0),zF,H',⟨Nat.le_refl _⟩,⟨zR HO_4.out⟩,⟨zB⟩⟩
     case round =>
      clear H'
      try clear c2
      try clear c2b0
      try clear c2b1
      try clear p2
      try clear c5
      try clear c5b0
      try clear c6
      try clear c6b0
      try clear p6
      try clear c7
      try clear c7b0
      try clear c7b1
      try clear hx808_0
      try clear p2
      try clear p808
      try clear q808
      obtain⟨x4_2,x6_2,rfl,HA,HK2,HO_4,HB⟩:=hrel
      cases gk with
      | zero=>exact absurd HA.out (by simp [yaw.l1])
      | succ k2 =>
       have H:=HA.out
       clear HA
       simp only[yaw.l1] at H
       by_cases c8:x6_2<(l0.length:Int)
       ·rw[if_pos c8] at H
        have c8b0:=decide_eq_true c8
        clear c8
        have HC9:=yaa.mk H
        clear H
        go_upto_if 35 with (fail)
        repeat (go_quiet (fail);go_upto_if 35 with (fail))
        go_cut [7] (fun v7 wc=>∃ (kq:Nat) (x7_8:Int),v7=.int .i64 x7_8∧yaa (yaw.j2 kq l0 x4_2 x6_2 x7_8=some (r1,r2))∧yaa (kq≤k2)∧yaa (Kd.R (Kd.int .u8) 5 wc w.heap.size (fun _=>True) u4 x4_2)∧yaa (Below w.heap.size w wc))
        case first =>
         have H:=HC9.out
         clear HC9
         by_cases c10:(Int.tmod x6_2 16)=0
         ·rw[if_pos c10] at H
          have c10b0:((Int.tmod x6_2 16) == 0)=true:=beq_iff_eq.mpr c10
          have c10b1:((Int.tmod x6_2 16) != 0)=false:=bne_eq_false_iff_eq.mpr c10
          clear c10
          (first|rw[c10b0]|(simp only[ya4,yba];rw[c10b0])|skip)
          have H':=yaa.mk H
          clear H
          go_wp2
          repeat (go_quiet (fail);try go_wp2)
          go_meet
          case rel=>exact⟨_,(0),zF,H',⟨by have:=HK1.out;have:=HK2.out;first|omega|exact Nat.le_refl _⟩,⟨zR HO_4.out⟩,⟨zB⟩⟩
         ·rw[if_neg c10] at H
          have c10b0:((Int.tmod x6_2 16) == 0)=false:=beq_eq_false_iff_ne.mpr c10
          have c10b1:((Int.tmod x6_2 16) != 0)=true:=bne_iff_ne.mpr c10
          (first|rw[c10b0]|(simp only[ya4,yba];rw[c10b0])|skip)
          obtain⟨ji11,hji11⟩:∃ j_:Int,(wrap64 (x6_2-1))=j_:=⟨_,rfl⟩
          replace H:(if 0≤(ji11) then (if (ji11)<(l0.length:Int) then (if 0≤x6_2 then ((ybt.f k2 (ybb l0 (ji11)) (ybb l0 x6_2)).bind fun t811=>(yaw.j2 k2 l0 x4_2 x6_2 t811)) else (none)) else (none)) else (none))=some (r1,r2):=by first|(rw[hji11] at H;exact H)|(simp only[hji11] at H ⊢;exact H)
          have hji11w:(IntKind.i64.wrap (x6_2-1))=ji11:=(ya4 _).trans hji11
          by_cases c12:0≤(ji11)
          ·rw[if_pos c12] at H
           have c12b0:=decide_eq_true c12
           clear c12
           by_cases c13:(ji11)<(l0.length:Int)
           ·rw[if_pos c13] at H
            have c13b0:=decide_eq_true c13
            clear c13
            by_cases c14:0≤x6_2
            ·rw[if_pos c14] at H
             have c14b0:=decide_eq_true c14
             clear c14
             replace H:=Option.bind_eq_some_iff.mp H
             obtain⟨t811,A150,H⟩:=H
             try dsimp only at H
             have A15:=yaa.mk A150
             clear A150
             have H':=yaa.mk H
             clear H
             have p809:0≤((ji11):Int):=of_decide_eq_true zA
             have q809:(ji11)<(l0.length:Int):=of_decide_eq_true zA
             obtain⟨ad809,A809_0,c809_0,e809,hx809_0,hl809_0,hi809_0⟩:=yd8 HR0.out (ji11) p809 q809
             cases e809
             replace hx809_0:=(HB.out.cell (World.block_lt_of_cell? w _ hx809_0)).trans hx809_0
             have HR809_0:=yaa.mk hi809_0
             have HC809_0:=yaa.mk hl809_0
             clear hi809_0 hl809_0
             replace p809:=eq_true p809
             replace q809:=eq_true q809
             have p810:0≤(x6_2:Int):=of_decide_eq_true zA
             have q810:x6_2<(l0.length:Int):=of_decide_eq_true zA
             obtain⟨ad810,A810_0,c810_0,e810,hx810_0,hl810_0,hi810_0⟩:=yd8 HR0.out x6_2 p810 q810
             obtain rfl:ad809=ad810:=(by injection e810)
             replace hx810_0:=(HB.out.cell (World.block_lt_of_cell? w _ hx810_0)).trans hx810_0
             have HR810_0:=yaa.mk hi810_0
             have HC810_0:=yaa.mk hl810_0
             clear hi810_0 hl810_0
             replace p810:=eq_true p810
             replace q810:=eq_true q810
             go_wp2_with (first|(go_at_call 133;(with_reducible refine(ybt.calls k2 _ _ (ybb l0 (ji11)) _ _ (ybb l0 x6_2) t811 _ ?side1 ?side2 ?side3 ?side4 A15.out).mono ?_);(case side1=>exact zC (Kd.C_below HR809_0.out HB.out));(case side2=>exact HC809_0.out);(case side3=>exact zC (Kd.C_below HR810_0.out HB.out));(case side4=>exact HC810_0.out);rintro e w' ⟨rfl,⟨nd,rfl⟩⟩;(try exact zQ)))
             repeat (go_quiet (first|(go_at_call 133;(with_reducible refine(ybt.calls k2 _ _ (ybb l0 (ji11)) _ _ (ybb l0 x6_2) t811 _ ?side1 ?side2 ?side3 ?side4 A15.out).mono ?_);(case side1=>exact zC (Kd.C_below HR809_0.out HB.out));(case side2=>exact HC809_0.out);(case side3=>exact zC (Kd.C_below HR810_0.out HB.out));(case side4=>exact HC810_0.out);rintro e w' ⟨rfl,⟨nd,rfl⟩⟩;(try exact zQ)));try go_wp2_with (first|(go_at_call 133;(with_reducible refine(ybt.calls k2 _ _ (ybb l0 (ji11)) _ _ (ybb l0 x6_2) t811 _ ?side1 ?side2 ?side3 ?side4 A15.out).mono ?_);(case side1=>exact zC (Kd.C_below HR809_0.out HB.out));(case side2=>exact HC809_0.out);(case side3=>exact zC (Kd.C_below HR810_0.out HB.out));(case side4=>exact HC810_0.out);rintro e w' ⟨rfl,⟨nd,rfl⟩⟩;(try exact zQ))))
             go_meet
             case rel=>exact⟨_,(t811),zF,H',⟨by have:=HK1.out;have:=HK2.out;first|omega|exact Nat.le_refl _⟩,⟨zR HO_4.out⟩,⟨zB⟩⟩
            ·rw[if_neg c14] at H
             exact absurd H (by simp)
           ·rw[if_neg c13] at H
            exact absurd H (by simp)
          ·rw[if_neg c12] at H
           exact absurd H (by simp)
        case rest =>
         clear HC9
         try clear c1
         try clear c2
         try clear c2b0
         try clear c2b1
         try clear p2
         try clear c5
         try clear c5b0
         try clear c6
         try clear c6b0
         try clear p6
         try clear c7
         try clear c7b0
         try clear c7b1
         try clear c8
         try clear c8b0
         try clear p8
         try clear q8
         try clear hx8
         try clear c9
         try clear c10
         try clear c10b0
         try clear c10b1
         try clear c12
         try clear c12b0
         try clear c13
         try clear c13b0
         try clear c14
         try clear c14b0
         try clear hx808_0
         try clear hx809_0
         try clear hx810_0
         try clear p2
         try clear p6
         try clear p808
         try clear p809
         try clear p810
         try clear q808
         try clear q809
         try clear q810
         obtain⟨kq,x7_8,rfl,HA,HJ8,HO_4,HB⟩:=hcut
         cases kq with
         | zero=>exact absurd HA.out (by simp [yaw.j2])
         | succ kj8 =>
          have H:=HA.out
          clear HA
          simp only[yaw.j2] at H
          replace H:=Option.bind_eq_some_iff.mp H
          obtain⟨t812,A160,H⟩:=H
          try dsimp only at H
          have A16:=yaa.mk A160
          clear A160
          replace H:=Option.bind_eq_some_iff.mp H
          obtain⟨t815,A170,H⟩:=H
          try dsimp only at H
          have A17:=yaa.mk A170
          clear A170
          by_cases c18:0≤x6_2
          ·rw[if_pos c18] at H
           have c18b0:=decide_eq_true c18
           clear c18
           by_cases c19:x6_2<(l0.length:Int)
           ·rw[if_pos c19] at H
            have c19b0:=decide_eq_true c19
            clear c19
            replace H:=Option.bind_eq_some_iff.mp H
            obtain⟨t819,A200,H⟩:=H
            try dsimp only at H
            have A20:=yaa.mk A200
            clear A200
            replace H:=Option.bind_eq_some_iff.mp H
            obtain⟨t822,A210,H⟩:=H
            try dsimp only at H
            have A21:=yaa.mk A210
            clear A210
            by_cases c22:0≤x7_8
            ·rw[if_pos c22] at H
             have c22b0:=eq_true c22
             have c22b1:=decide_eq_true c22
             clear c22
             by_cases c23:x7_8≤((ybb l0 x6_2).length:Int)
             ·rw[if_pos c23] at H
              have c23b0:=eq_true c23
              have c23b1:=decide_eq_true c23
              clear c23
              replace H:=Option.bind_eq_some_iff.mp H
              obtain⟨t827,A240,H⟩:=H
              try dsimp only at H
              have A24:=yaa.mk A240
              clear A240
              have H':=yaa.mk H
              clear H
              go_wp2_with (first|(go_at_call 58;(with_reducible refine(yae.calls kj8 (IntKind.u64.wrap (x7_8)) t812 _ A16.out).mono ?_);rintro e w25 ⟨v813,rfl,ho0,hb⟩;have n0_:=yaa.mk (Kd.R_elder' (zR HO_4.out) (Kd.R_base ho0) hb);have n1_:=yaa.mk (Kd.R_lower (Kd.R_new' ho0 (Kd.R_lt (zR HO_4.out))) (yac zB));have n2_:=yaa.mk (yai zB hb);clear HO_4;clear HB;have HO_4:=n0_;have HO814:=n1_;have HB:=n2_;clear n0_ n1_ n2_;(try clear hb);(try clear hb2);(try clear hk);(try clear hi);(try clear ho0);obtain⟨Ao26,co26,eo26⟩:=Kd.R_slice HO_4.out;subst eo26;obtain⟨Ao27,co27,eo27⟩:=Kd.R_slice HO814.out;subst eo27)|(go_at_call 134;(with_reducible refine(ybd.calls kj8 (fun k_=>some k_=(.slice Ao26 x4_2.length co26:Value).ownBlock) (.slice Ao26 x4_2.length co26) x4_2 _ _ t812 t815 w _ ?side1 ?side2 ?side3 ?side4 A17.out).mono ?_);(case side1=>exact zB);(case side2=>exact Kd.R_tight rfl HO_4.out);(case side3=>exact Kd.C_kept_own (HO814.out) (fun k_ hk_ hs_=>(hk_.2) hs_));(case side4=>exact(Kd.R_reads' HO814.out).2.1);rintro e w28 ⟨v816,rfl,ho0,hb,hkp⟩;have n0_:=yaa.mk (Kd.R_mono (ok':=fun k_=>some k_≠(v816:Value).ownBlock) (Kd.R_keptB (HO814.out) hkp (fun k_ hk_ hs_=>(hk_.2) hs_)) (fun k_ hk_=>fun e_=>Or.elim (ho0.1 k_ e_.symm) (fun hs_=>hk_.2.1 hs_) (fun hn_=>Nat.not_le.2 hk_.2.2 hn_)));have n1_:=yaa.mk (Kd.R_mono (ok':=fun k_=>some k_≠(.slice Ao27 t812.length co27:Value).ownBlock) ho0 (fun k_ hk_=>Or.elim hk_ (fun hs_=>fun e_=>(((HO814.out).1 k_ e_.symm).2) hs_) (fun hn_=>(Kd.fresh' (Kd.R_lt (zR HO814.out)) k_ hn_))));have n2_:=yaa.mk (hb);clear HO814;clear HB;clear HO_4;have HO814:=n0_;have HO817:=n1_;have HB:=n2_;clear n0_ n1_ n2_;(try clear hb);(try clear hkp);(try clear ho0);have p818:0≤(x6_2:Int):=of_decide_eq_true zA;have q818:x6_2<(l0.length:Int):=of_decide_eq_true zA;obtain⟨ad818,A818_0,c818_0,e818,hx818_0,hl818_0,hi818_0⟩:=yd8 HR0.out x6_2 p818 q818;cases e818;replace hx818_0:=(HB.out.cell (World.block_lt_of_cell? w _ hx818_0)).trans hx818_0;have HR818_0:=yaa.mk hi818_0;have HC818_0:=yaa.mk hl818_0;clear hi818_0 hl818_0;replace p818:=eq_true p818;replace q818:=eq_true q818)|(go_at_call 58;(with_reducible refine(yae.calls kj8 (IntKind.u64.wrap (wrap64 (((ybb l0 x6_2).length:Int)-x7_8))) t819 _ A20.out).mono ?_);rintro e w29 ⟨v820,rfl,ho0,hb⟩;have n0_:=yaa.mk (Kd.R_elder' (zR HO814.out) (Kd.R_base ho0) hb);have n1_:=yaa.mk (Kd.R_elder' (zR HO817.out) (Kd.R_base ho0) hb);have n2_:=yaa.mk (Kd.R_lower (Kd.R_new' (Kd.R_new' ho0 (Kd.R_lt (zR HO814.out))) (Kd.R_lt (zR HO817.out))) (yac zB));have n3_:=yaa.mk (yai zB hb);clear HO814;clear HO817;clear HB;have HO814:=n0_;have HO817:=n1_;have HO821:=n2_;have HB:=n3_;clear n0_ n1_ n2_ n3_;(try clear hb);(try clear hb2);(try clear hk);(try clear hi);(try clear ho0);obtain⟨Ao30,co30,eo30⟩:=Kd.R_slice HO817.out;subst eo30;obtain⟨Ao31,co31,eo31⟩:=Kd.R_slice HO821.out;subst eo31)|(go_at_call 134;(with_reducible refine(ybd.calls kj8 (fun k_=>some k_=(.slice Ao30 t815.length co30:Value).ownBlock) (.slice Ao30 t815.length co30) t815 _ _ t819 t822 w _ ?side1 ?side2 ?side3 ?side4 A21.out).mono ?_);(case side1=>exact zB);(case side2=>exact Kd.R_tight rfl HO817.out);(case side3=>exact Kd.C_kept_own (HO821.out) (fun k_ hk_ hs_=>(hk_.2) hs_));(case side4=>exact(Kd.R_reads' HO821.out).2.1);rintro e w32 ⟨v823,rfl,ho0,hb,hkp⟩;have n0_:=yaa.mk (Kd.R_mono (ok':=fun k_=>some k_≠(.slice Ao31 t819.length co31:Value).ownBlock∧some k_≠(v823:Value).ownBlock) (Kd.R_keptB (HO814.out) hkp (fun k_ hk_ hs_=>(hk_.1) hs_)) (fun k_ hk_=>⟨hk_.1.2,fun e_=>Or.elim (ho0.1 k_ e_.symm) (fun hs_=>hk_.2.1 hs_) (fun hn_=>Nat.not_le.2 hk_.2.2 hn_)⟩));have n1_:=yaa.mk (Kd.R_mono (ok':=fun k_=>some k_≠(.slice Ao27 t812.length co27:Value).ownBlock∧some k_≠(v823:Value).ownBlock) (Kd.R_keptB (HO821.out) hkp (fun k_ hk_ hs_=>(hk_.2) hs_)) (fun k_ hk_=>⟨hk_.1.1.2,fun e_=>Or.elim (ho0.1 k_ e_.symm) (fun hs_=>hk_.2.1 hs_) (fun hn_=>Nat.not_le.2 hk_.2.2 hn_)⟩));have n2_:=yaa.mk (Kd.R_mono (ok':=fun k_=>some k_≠(.slice Ao27 t812.length co27:Value).ownBlock∧some k_≠(.slice Ao31 t819.length co31:Value).ownBlock) ho0 (fun k_ hk_=>⟨Or.elim hk_ (fun hs_=>fun e_=>(((HO814.out).1 k_ e_.symm).1) hs_) (fun hn_=>(Kd.fresh' (Kd.R_lt (zR HO814.out)) k_ hn_)),Or.elim hk_ (fun hs_=>fun e_=>(((HO821.out).1 k_ e_.symm).2) hs_) (fun hn_=>(Kd.fresh' (Kd.R_lt (zR HO821.out)) k_ hn_))⟩));have n3_:=yaa.mk (hb);clear HO814;clear HO821;clear HB;clear HO817;have HO814:=n0_;have HO821:=n1_;have HO824:=n2_;have HB:=n3_;clear n0_ n1_ n2_ n3_;(try clear hb);(try clear hkp);(try clear ho0);have p825:0≤(x6_2:Int):=of_decide_eq_true zA;have q825:x6_2<(l0.length:Int):=of_decide_eq_true zA;obtain⟨ad825,A825_0,c825_0,e825,hx825_0,hl825_0,hi825_0⟩:=yd8 HR0.out x6_2 p825 q825;obtain rfl:ad818=ad825:=(by injection e825);replace hx825_0:=(HB.out.cell (World.block_lt_of_cell? w _ hx825_0)).trans hx825_0;have HR825_0:=yaa.mk hi825_0;have HC825_0:=yaa.mk hl825_0;clear hi825_0 hl825_0;replace p825:=eq_true p825;replace q825:=eq_true q825;obtain⟨i033,hi033,_,hsz33,_⟩:=info_parts yb9;obtain⟨A33,hcut33,hA33,hC33⟩:=yg1 (P:=Tryz.prog) (Value.int .u8) 0 25 5 .i64 Tryz.underlying25 hi033 hsz33 A825_0 c825_0 (ybb l0 x6_2) x7_8 (of_decide_eq_true zA) (of_decide_eq_true zA) HC825_0.out;have HR826:=yaa.mk (Kd.C_of_reads (h1:=fun _=>rfl) (hA33 _ (Kd.reads_of_C HR825_0.out)));have HC826:=yaa.mk hC33;clear hA33 hC33 hi033 hsz33;obtain⟨Ao34,co34,eo34⟩:=Kd.R_slice HO824.out;subst eo34)|(go_at_call 134;(try rw[show(ybb l0 x6_2).length-(x7_8:Int).toNat=((ybb l0 x6_2).drop (x7_8:Int).toNat).length from List.length_drop.symm]);(with_reducible refine(ybd.calls kj8 (fun k_=>some k_=(.slice Ao34 t822.length co34:Value).ownBlock) (.slice Ao34 t822.length co34) t822 _ _ ((ybb l0 x6_2).drop (x7_8:Int).toNat) t827 w _ ?side1 ?side2 ?side3 ?side4 A24.out).mono ?_);(case side1=>exact zB);(case side2=>exact Kd.R_tight rfl HO824.out);(case side3=>exact Kd.C_kept_came (Kd.heap_int .u8) HR826.out zB (fun k_ hs_=>(fun e_=>Kd.R_base HO824.out k_ e_.symm) hs_));(case side4=>exact HC826.out);rintro e w35 ⟨v828,rfl,ho0,hb,hkp⟩;have n0_:=yaa.mk (Kd.R_mono (ok':=fun k_=>some k_≠(.slice Ao31 t819.length co31:Value).ownBlock∧some k_≠(v828:Value).ownBlock) (Kd.R_keptB (HO814.out) hkp (fun k_ hk_ hs_=>(hk_.2) hs_)) (fun k_ hk_=>⟨hk_.1.1,fun e_=>Or.elim (ho0.1 k_ e_.symm) (fun hs_=>hk_.2.1 hs_) (fun hn_=>Nat.not_le.2 hk_.2.2 hn_)⟩));have n1_:=yaa.mk (Kd.R_mono (ok':=fun k_=>some k_≠(.slice Ao27 t812.length co27:Value).ownBlock∧some k_≠(v828:Value).ownBlock) (Kd.R_keptB (HO821.out) hkp (fun k_ hk_ hs_=>(hk_.2) hs_)) (fun k_ hk_=>⟨hk_.1.1,fun e_=>Or.elim (ho0.1 k_ e_.symm) (fun hs_=>hk_.2.1 hs_) (fun hn_=>Nat.not_le.2 hk_.2.2 hn_)⟩));have n2_:=yaa.mk (Kd.R_mono (ok':=fun k_=>some k_≠(.slice Ao27 t812.length co27:Value).ownBlock∧some k_≠(.slice Ao31 t819.length co31:Value).ownBlock) ho0 (fun k_ hk_=>⟨Or.elim hk_ (fun hs_=>fun e_=>(((HO814.out).1 k_ e_.symm).2) hs_) (fun hn_=>(Kd.fresh' (Kd.R_lt (zR HO814.out)) k_ hn_)),Or.elim hk_ (fun hs_=>fun e_=>(((HO821.out).1 k_ e_.symm).2) hs_) (fun hn_=>(Kd.fresh' (Kd.R_lt (zR HO821.out)) k_ hn_))⟩));have n3_:=yaa.mk (hb);clear HO814;clear HO821;clear HB;clear HO824;have HO814:=n0_;have HO821:=n1_;have HO829:=n2_;have HB:=n3_;clear n0_ n1_ n2_ n3_;(try clear hb);(try clear hkp);(try clear ho0)))
              repeat (go_quiet (first|(go_at_call 58;(with_reducible refine(yae.calls kj8 (IntKind.u64.wrap (x7_8)) t812 _ A16.out).mono ?_);rintro e w25 ⟨v813,rfl,ho0,hb⟩;have n0_:=yaa.mk (Kd.R_elder' (zR HO_4.out) (Kd.R_base ho0) hb);have n1_:=yaa.mk (Kd.R_lower (Kd.R_new' ho0 (Kd.R_lt (zR HO_4.out))) (yac zB));have n2_:=yaa.mk (yai zB hb);clear HO_4;clear HB;have HO_4:=n0_;have HO814:=n1_;have HB:=n2_;clear n0_ n1_ n2_;(try clear hb);(try clear hb2);(try clear hk);(try clear hi);(try clear ho0);obtain⟨Ao26,co26,eo26⟩:=Kd.R_slice HO_4.out;subst eo26;obtain⟨Ao27,co27,eo27⟩:=Kd.R_slice HO814.out;subst eo27)|(go_at_call 134;(with_reducible refine(ybd.calls kj8 (fun k_=>some k_=(.slice Ao26 x4_2.length co26:Value).ownBlock) (.slice Ao26 x4_2.length co26) x4_2 _ _ t812 t815 w _ ?side1 ?side2 ?side3 ?side4 A17.out).mono ?_);(case side1=>exact zB);(case side2=>exact Kd.R_tight rfl HO_4.out);(case side3=>exact Kd.C_kept_own (HO814.out) (fun k_ hk_ hs_=>(hk_.2) hs_));(case side4=>exact(Kd.R_reads' HO814.out).2.1);rintro e w28 ⟨v816,rfl,ho0,hb,hkp⟩;have n0_:=yaa.mk (Kd.R_mono (ok':=fun k_=>some k_≠(v816:Value).ownBlock) (Kd.R_keptB (HO814.out) hkp (fun k_ hk_ hs_=>(hk_.2) hs_)) (fun k_ hk_=>fun e_=>Or.elim (ho0.1 k_ e_.symm) (fun hs_=>hk_.2.1 hs_) (fun hn_=>Nat.not_le.2 hk_.2.2 hn_)));have n1_:=yaa.mk (Kd.R_mono (ok':=fun k_=>some k_≠(.slice Ao27 t812.length co27:Value).ownBlock) ho0 (fun k_ hk_=>Or.elim hk_ (fun hs_=>fun e_=>(((HO814.out).1 k_ e_.symm).2) hs_) (fun hn_=>(Kd.fresh' (Kd.R_lt (zR HO814.out)) k_ hn_))));have n2_:=yaa.mk (hb);clear HO814;clear HB;clear HO_4;have HO814:=n0_;have HO817:=n1_;have HB:=n2_;clear n0_ n1_ n2_;(try clear hb);(try clear hkp);(try clear ho0);have p818:0≤(x6_2:Int):=of_decide_eq_true zA;have q818:x6_2<(l0.length:Int):=of_decide_eq_true zA;obtain⟨ad818,A818_0,c818_0,e818,hx818_0,hl818_0,hi818_0⟩:=yd8 HR0.out x6_2 p818 q818;cases e818;replace hx818_0:=(HB.out.cell (World.block_lt_of_cell? w _ hx818_0)).trans hx818_0;have HR818_0:=yaa.mk hi818_0;have HC818_0:=yaa.mk hl818_0;clear hi818_0 hl818_0;replace p818:=eq_true p818;replace q818:=eq_true q818)|(go_at_call 58;(with_reducible refine(yae.calls kj8 (IntKind.u64.wrap (wrap64 (((ybb l0 x6_2).length:Int)-x7_8))) t819 _ A20.out).mono ?_);rintro e w29 ⟨v820,rfl,ho0,hb⟩;have n0_:=yaa.mk (Kd.R_elder' (zR HO814.out) (Kd.R_base ho0) hb);have n1_:=yaa.mk (Kd.R_elder' (zR HO817.out) (Kd.R_base ho0) hb);have n2_:=yaa.mk (Kd.R_lower (Kd.R_new' (Kd.R_new' ho0 (Kd.R_lt (zR HO814.out))) (Kd.R_lt (zR HO817.out))) (yac zB));have n3_:=yaa.mk (yai zB hb);clear HO814;clear HO817;clear HB;have HO814:=n0_;have HO817:=n1_;have HO821:=n2_;have HB:=n3_;clear n0_ n1_ n2_ n3_;(try clear hb);(try clear hb2);(try clear hk);(try clear hi);(try clear ho0);obtain⟨Ao30,co30,eo30⟩:=Kd.R_slice HO817.out;subst eo30;obtain⟨Ao31,co31,eo31⟩:=Kd.R_slice HO821.out;subst eo31)|(go_at_call 134;(with_reducible refine(ybd.calls kj8 (fun k_=>some k_=(.slice Ao30 t815.length co30:Value).ownBlock) (.slice Ao30 t815.length co30) t815 _ _ t819 t822 w _ ?side1 ?side2 ?side3 ?side4 A21.out).mono ?_);(case side1=>exact zB);(case side2=>exact Kd.R_tight rfl HO817.out);(case side3=>exact Kd.C_kept_own (HO821.out) (fun k_ hk_ hs_=>(hk_.2) hs_));(case side4=>exact(Kd.R_reads' HO821.out).2.1);rintro e w32 ⟨v823,rfl,ho0,hb,hkp⟩;have n0_:=yaa.mk (Kd.R_mono (ok':=fun k_=>some k_≠(.slice Ao31 t819.length co31:Value).ownBlock∧some k_≠(v823:Value).ownBlock) (Kd.R_keptB (HO814.out) hkp (fun k_ hk_ hs_=>(hk_.1) hs_)) (fun k_ hk_=>⟨hk_.1.2,fun e_=>Or.elim (ho0.1 k_ e_.symm) (fun hs_=>hk_.2.1 hs_) (fun hn_=>Nat.not_le.2 hk_.2.2 hn_)⟩));have n1_:=yaa.mk (Kd.R_mono (ok':=fun k_=>some k_≠(.slice Ao27 t812.length co27:Value).ownBlock∧some k_≠(v823:Value).ownBlock) (Kd.R_keptB (HO821.out) hkp (fun k_ hk_ hs_=>(hk_.2) hs_)) (fun k_ hk_=>⟨hk_.1.1.2,fun e_=>Or.elim (ho0.1 k_ e_.symm) (fun hs_=>hk_.2.1 hs_) (fun hn_=>Nat.not_le.2 hk_.2.2 hn_)⟩));have n2_:=yaa.mk (Kd.R_mono (ok':=fun k_=>some k_≠(.slice Ao27 t812.length co27:Value).ownBlock∧some k_≠(.slice Ao31 t819.length co31:Value).ownBlock) ho0 (fun k_ hk_=>⟨Or.elim hk_ (fun hs_=>fun e_=>(((HO814.out).1 k_ e_.symm).1) hs_) (fun hn_=>(Kd.fresh' (Kd.R_lt (zR HO814.out)) k_ hn_)),Or.elim hk_ (fun hs_=>fun e_=>(((HO821.out).1 k_ e_.symm).2) hs_) (fun hn_=>(Kd.fresh' (Kd.R_lt (zR HO821.out)) k_ hn_))⟩));have n3_:=yaa.mk (hb);clear HO814;clear HO821;clear HB;clear HO817;have HO814:=n0_;have HO821:=n1_;have HO824:=n2_;have HB:=n3_;clear n0_ n1_ n2_ n3_;(try clear hb);(try clear hkp);(try clear ho0);have p825:0≤(x6_2:Int):=of_decide_eq_true zA;have q825:x6_2<(l0.length:Int):=of_decide_eq_true zA;obtain⟨ad825,A825_0,c825_0,e825,hx825_0,hl825_0,hi825_0⟩:=yd8 HR0.out x6_2 p825 q825;obtain rfl:ad818=ad825:=(by injection e825);replace hx825_0:=(HB.out.cell (World.block_lt_of_cell? w _ hx825_0)).trans hx825_0;have HR825_0:=yaa.mk hi825_0;have HC825_0:=yaa.mk hl825_0;clear hi825_0 hl825_0;replace p825:=eq_true p825;replace q825:=eq_true q825;obtain⟨i033,hi033,_,hsz33,_⟩:=info_parts yb9;obtain⟨A33,hcut33,hA33,hC33⟩:=yg1 (P:=Tryz.prog) (Value.int .u8) 0 25 5 .i64 Tryz.underlying25 hi033 hsz33 A825_0 c825_0 (ybb l0 x6_2) x7_8 (of_decide_eq_true zA) (of_decide_eq_true zA) HC825_0.out;have HR826:=yaa.mk (Kd.C_of_reads (h1:=fun _=>rfl) (hA33 _ (Kd.reads_of_C HR825_0.out)));have HC826:=yaa.mk hC33;clear hA33 hC33 hi033 hsz33;obtain⟨Ao34,co34,eo34⟩:=Kd.R_slice HO824.out;subst eo34)|(go_at_call 134;(try rw[show(ybb l0 x6_2).length-(x7_8:Int).toNat=((ybb l0 x6_2).drop (x7_8:Int).toNat).length from List.length_drop.symm]);(with_reducible refine(ybd.calls kj8 (fun k_=>some k_=(.slice Ao34 t822.length co34:Value).ownBlock) (.slice Ao34 t822.length co34) t822 _ _ ((ybb l0 x6_2).drop (x7_8:Int).toNat) t827 w _ ?side1 ?side2 ?side3 ?side4 A24.out).mono ?_);(case side1=>exact zB);(case side2=>exact Kd.R_tight rfl HO824.out);(case side3=>exact Kd.C_kept_came (Kd.heap_int .u8) HR826.out zB (fun k_ hs_=>(fun e_=>Kd.R_base HO824.out k_ e_.symm) hs_));(case side4=>exact HC826.out);rintro e w35 ⟨v828,rfl,ho0,hb,hkp⟩;have n0_:=yaa.mk (Kd.R_mono (ok':=fun k_=>some k_≠(.slice Ao31 t819.length co31:Value).ownBlock∧some k_≠(v828:Value).ownBlock) (Kd.R_keptB (HO814.out) hkp (fun k_ hk_ hs_=>(hk_.2) hs_)) (fun k_ hk_=>⟨hk_.1.1,fun e_=>Or.elim (ho0.1 k_ e_.symm) (fun hs_=>hk_.2.1 hs_) (fun hn_=>Nat.not_le.2 hk_.2.2 hn_)⟩));have n1_:=yaa.mk (Kd.R_mono (ok':=fun k_=>some k_≠(.slice Ao27 t812.length co27:Value).ownBlock∧some k_≠(v828:Value).ownBlock) (Kd.R_keptB (HO821.out) hkp (fun k_ hk_ hs_=>(hk_.2) hs_)) (fun k_ hk_=>⟨hk_.1.1,fun e_=>Or.elim (ho0.1 k_ e_.symm) (fun hs_=>hk_.2.1 hs_) (fun hn_=>Nat.not_le.2 hk_.2.2 hn_)⟩));have n2_:=yaa.mk (Kd.R_mono (ok':=fun k_=>some k_≠(.slice Ao27 t812.length co27:Value).ownBlock∧some k_≠(.slice Ao31 t819.length co31:Value).ownBlock) ho0 (fun k_ hk_=>⟨Or.elim hk_ (fun hs_=>fun e_=>(((HO814.out).1 k_ e_.symm).2) hs_) (fun hn_=>(Kd.fresh' (Kd.R_lt (zR HO814.out)) k_ hn_)),Or.elim hk_ (fun hs_=>fun e_=>(((HO821.out).1 k_ e_.symm).2) hs_) (fun hn_=>(Kd.fresh' (Kd.R_lt (zR HO821.out)) k_ hn_))⟩));have n3_:=yaa.mk (hb);clear HO814;clear HO821;clear HB;clear HO824;have HO814:=n0_;have HO821:=n1_;have HO829:=n2_;have HB:=n3_;clear n0_ n1_ n2_ n3_;(try clear hb);(try clear hkp);(try clear ho0)));try go_wp2_with (first|(go_at_call 58;(with_reducible refine(yae.calls kj8 (IntKind.u64.wrap (x7_8)) t812 _ A16.out).mono ?_);rintro e w25 ⟨v813,rfl,ho0,hb⟩;have n0_:=yaa.mk (Kd.R_elder' (zR HO_4.out) (Kd.R_base ho0) hb);have n1_:=yaa.mk (Kd.R_lower (Kd.R_new' ho0 (Kd.R_lt (zR HO_4.out))) (yac zB));have n2_:=yaa.mk (yai zB hb);clear HO_4;clear HB;have HO_4:=n0_;have HO814:=n1_;have HB:=n2_;clear n0_ n1_ n2_;(try clear hb);(try clear hb2);(try clear hk);(try clear hi);(try clear ho0);obtain⟨Ao26,co26,eo26⟩:=Kd.R_slice HO_4.out;subst eo26;obtain⟨Ao27,co27,eo27⟩:=Kd.R_slice HO814.out;subst eo27)|(go_at_call 134;(with_reducible refine(ybd.calls kj8 (fun k_=>some k_=(.slice Ao26 x4_2.length co26:Value).ownBlock) (.slice Ao26 x4_2.length co26) x4_2 _ _ t812 t815 w _ ?side1 ?side2 ?side3 ?side4 A17.out).mono ?_);(case side1=>exact zB);(case side2=>exact Kd.R_tight rfl HO_4.out);(case side3=>exact Kd.C_kept_own (HO814.out) (fun k_ hk_ hs_=>(hk_.2) hs_));(case side4=>exact(Kd.R_reads' HO814.out).2.1);rintro e w28 ⟨v816,rfl,ho0,hb,hkp⟩;have n0_:=yaa.mk (Kd.R_mono (ok':=fun k_=>some k_≠(v816:Value).ownBlock) (Kd.R_keptB (HO814.out) hkp (fun k_ hk_ hs_=>(hk_.2) hs_)) (fun k_ hk_=>fun e_=>Or.elim (ho0.1 k_ e_.symm) (fun hs_=>hk_.2.1 hs_) (fun hn_=>Nat.not_le.2 hk_.2.2 hn_)));have n1_:=yaa.mk (Kd.R_mono (ok':=fun k_=>some k_≠(.slice Ao27 t812.length co27:Value).ownBlock) ho0 (fun k_ hk_=>Or.elim hk_ (fun hs_=>fun e_=>(((HO814.out).1 k_ e_.symm).2) hs_) (fun hn_=>(Kd.fresh' (Kd.R_lt (zR HO814.out)) k_ hn_))));have n2_:=yaa.mk (hb);clear HO814;clear HB;clear HO_4;have HO814:=n0_;have HO817:=n1_;have HB:=n2_;clear n0_ n1_ n2_;(try clear hb);(try clear hkp);(try clear ho0);have p818:0≤(x6_2:Int):=of_decide_eq_true zA;have q818:x6_2<(l0.length:Int):=of_decide_eq_true zA;obtain⟨ad818,A818_0,c818_0,e818,hx818_0,hl818_0,hi818_0⟩:=yd8 HR0.out x6_2 p818 q818;cases e818;replace hx818_0:=(HB.out.cell (World.block_lt_of_cell? w _ hx818_0)).trans hx818_0;have HR818_0:=yaa.mk hi818_0;have HC818_0:=yaa.mk hl818_0;clear hi818_0 hl818_0;replace p818:=eq_true p818;replace q818:=eq_true q818)|(go_at_call 58;(with_reducible refine(yae.calls kj8 (IntKind.u64.wrap (wrap64 (((ybb l0 x6_2).length:Int)-x7_8))) t819 _ A20.out).mono ?_);rintro e w29 ⟨v820,rfl,ho0,hb⟩;have n0_:=yaa.mk (Kd.R_elder' (zR HO814.out) (Kd.R_base ho0) hb);have n1_:=yaa.mk (Kd.R_elder' (zR HO817.out) (Kd.R_base ho0) hb);have n2_:=yaa.mk (Kd.R_lower (Kd.R_new' (Kd.R_new' ho0 (Kd.R_lt (zR HO814.out))) (Kd.R_lt (zR HO817.out))) (yac zB));have n3_:=yaa.mk (yai zB hb);clear HO814;clear HO817;clear HB;have HO814:=n0_;have HO817:=n1_;have HO821:=n2_;have HB:=n3_;clear n0_ n1_ n2_ n3_;(try clear hb);(try clear hb2);(try clear hk);(try clear hi);(try clear ho0);obtain⟨Ao30,co30,eo30⟩:=Kd.R_slice HO817.out;subst eo30;obtain⟨Ao31,co31,eo31⟩:=Kd.R_slice HO821.out;subst eo31)|(go_at_call 134;(with_reducible refine(ybd.calls kj8 (fun k_=>some k_=(.slice Ao30 t815.length co30:Value).ownBlock) (.slice Ao30 t815.length co30) t815 _ _ t819 t822 w _ ?side1 ?side2 ?side3 ?side4 A21.out).mono ?_);(case side1=>exact zB);(case side2=>exact Kd.R_tight rfl HO817.out);(case side3=>exact Kd.C_kept_own (HO821.out) (fun k_ hk_ hs_=>(hk_.2) hs_));(case side4=>exact(Kd.R_reads' HO821.out).2.1);rintro e w32 ⟨v823,rfl,ho0,hb,hkp⟩;have n0_:=yaa.mk (Kd.R_mono (ok':=fun k_=>some k_≠(.slice Ao31 t819.length co31:Value).ownBlock∧some k_≠(v823:Value).ownBlock) (Kd.R_keptB (HO814.out) hkp (fun k_ hk_ hs_=>(hk_.1) hs_)) (fun k_ hk_=>⟨hk_.1.2,fun e_=>Or.elim (ho0.1 k_ e_.symm) (fun hs_=>hk_.2.1 hs_) (fun hn_=>Nat.not_le.2 hk_.2.2 hn_)⟩));have n1_:=yaa.mk (Kd.R_mono (ok':=fun k_=>some k_≠(.slice Ao27 t812.length co27:Value).ownBlock∧some k_≠(v823:Value).ownBlock) (Kd.R_keptB (HO821.out) hkp (fun k_ hk_ hs_=>(hk_.2) hs_)) (fun k_ hk_=>⟨hk_.1.1.2,fun e_=>Or.elim (ho0.1 k_ e_.symm) (fun hs_=>hk_.2.1 hs_) (fun hn_=>Nat.not_le.2 hk_.2.2 hn_)⟩));have n2_:=yaa.mk (Kd.R_mono (ok':=fun k_=>some k_≠(.slice Ao27 t812.length co27:Value).ownBlock∧some k_≠(.slice Ao31 t819.length co31:Value).ownBlock) ho0 (fun k_ hk_=>⟨Or.elim hk_ (fun hs_=>fun e_=>(((HO814.out).1 k_ e_.symm).1) hs_) (fun hn_=>(Kd.fresh' (Kd.R_lt (zR HO814.out)) k_ hn_)),Or.elim hk_ (fun hs_=>fun e_=>(((HO821.out).1 k_ e_.symm).2) hs_) (fun hn_=>(Kd.fresh' (Kd.R_lt (zR HO821.out)) k_ hn_))⟩));have n3_:=yaa.mk (hb);clear HO814;clear HO821;clear HB;clear HO817;have HO814:=n0_;have HO821:=n1_;have HO824:=n2_;have HB:=n3_;clear n0_ n1_ n2_ n3_;(try clear hb);(try clear hkp);(try clear ho0);have p825:0≤(x6_2:Int):=of_decide_eq_true zA;have q825:x6_2<(l0.length:Int):=of_decide_eq_true zA;obtain⟨ad825,A825_0,c825_0,e825,hx825_0,hl825_0,hi825_0⟩:=yd8 HR0.out x6_2 p825 q825;obtain rfl:ad818=ad825:=(by injection e825);replace hx825_0:=(HB.out.cell (World.block_lt_of_cell? w _ hx825_0)).trans hx825_0;have HR825_0:=yaa.mk hi825_0;have HC825_0:=yaa.mk hl825_0;clear hi825_0 hl825_0;replace p825:=eq_true p825;replace q825:=eq_true q825;obtain⟨i033,hi033,_,hsz33,_⟩:=info_parts yb9;obtain⟨A33,hcut33,hA33,hC33⟩:=yg1 (P:=Tryz.prog) (Value.int .u8) 0 25 5 .i64 Tryz.underlying25 hi033 hsz33 A825_0 c825_0 (ybb l0 x6_2) x7_8 (of_decide_eq_true zA) (of_decide_eq_true zA) HC825_0.out;have HR826:=yaa.mk (Kd.C_of_reads (h1:=fun _=>rfl) (hA33 _ (Kd.reads_of_C HR825_0.out)));have HC826:=yaa.mk hC33;clear hA33 hC33 hi033 hsz33;obtain⟨Ao34,co34,eo34⟩:=Kd.R_slice HO824.out;subst eo34)|(go_at_call 134;(try rw[show(ybb l0 x6_2).length-(x7_8:Int).toNat=((ybb l0 x6_2).drop (x7_8:Int).toNat).length from List.length_drop.symm]);(with_reducible refine(ybd.calls kj8 (fun k_=>some k_=(.slice Ao34 t822.length co34:Value).ownBlock) (.slice Ao34 t822.length co34) t822 _ _ ((ybb l0 x6_2).drop (x7_8:Int).toNat) t827 w _ ?side1 ?side2 ?side3 ?side4 A24.out).mono ?_);(case side1=>exact zB);(case side2=>exact Kd.R_tight rfl HO824.out);(case side3=>exact Kd.C_kept_came (Kd.heap_int .u8) HR826.out zB (fun k_ hs_=>(fun e_=>Kd.R_base HO824.out k_ e_.symm) hs_));(case side4=>exact HC826.out);rintro e w35 ⟨v828,rfl,ho0,hb,hkp⟩;have n0_:=yaa.mk (Kd.R_mono (ok':=fun k_=>some k_≠(.slice Ao31 t819.length co31:Value).ownBlock∧some k_≠(v828:Value).ownBlock) (Kd.R_keptB (HO814.out) hkp (fun k_ hk_ hs_=>(hk_.2) hs_)) (fun k_ hk_=>⟨hk_.1.1,fun e_=>Or.elim (ho0.1 k_ e_.symm) (fun hs_=>hk_.2.1 hs_) (fun hn_=>Nat.not_le.2 hk_.2.2 hn_)⟩));have n1_:=yaa.mk (Kd.R_mono (ok':=fun k_=>some k_≠(.slice Ao27 t812.length co27:Value).ownBlock∧some k_≠(v828:Value).ownBlock) (Kd.R_keptB (HO821.out) hkp (fun k_ hk_ hs_=>(hk_.2) hs_)) (fun k_ hk_=>⟨hk_.1.1,fun e_=>Or.elim (ho0.1 k_ e_.symm) (fun hs_=>hk_.2.1 hs_) (fun hn_=>Nat.not_le.2 hk_.2.2 hn_)⟩));have n2_:=yaa.mk (Kd.R_mono (ok':=fun k_=>some k_≠(.slice Ao27 t812.length co27:Value).ownBlock∧some k_≠(.slice Ao31 t819.length co31:Value).ownBlock) ho0 (fun k_ hk_=>⟨Or.elim hk_ (fun hs_=>fun e_=>(((HO814.out).1 k_ e_.symm).2) hs_) (fun hn_=>(Kd.fresh' (Kd.R_lt (zR HO814.out)) k_ hn_)),Or.elim hk_ (fun hs_=>fun e_=>(((HO821.out).1 k_ e_.symm).2) hs_) (fun hn_=>(Kd.fresh' (Kd.R_lt (zR HO821.out)) k_ hn_))⟩));have n3_:=yaa.mk (hb);clear HO814;clear HO821;clear HB;clear HO824;have HO814:=n0_;have HO821:=n1_;have HO829:=n2_;have HB:=n3_;clear n0_ n1_ n2_ n3_;(try clear hb);(try clear hkp);(try clear ho0))))
              go_roundg kj8
              case measure=>have:=HK1.out;have:=HK2.out;have:=HJ8.out;omega
              case rel=>exact⟨(t827),(wrap64 (x6_2+1)),zF,H',⟨by have:=HK1.out;have:=HK2.out;have:=HJ8.out;omega⟩,⟨by (with_reducible repeat (first|apply Kd.R_alloc|apply Kd.R_drewN|apply Kd.R_drew));exact Kd.R_mono HO829.out (fun _ hk=>trivial)⟩,⟨zB⟩⟩
             ·rw[if_neg c23] at H
              exact absurd H (by simp)
            ·rw[if_neg c22] at H
             exact absurd H (by simp)
           ·rw[if_neg c19] at H
            exact absurd H (by simp)
          ·rw[if_neg c18] at H
           exact absurd H (by simp)
       ·rw[if_neg c8] at H
        have c8b0:=decide_eq_false c8
        clear c8
        simp only[Option.some.injEq,Prod.mk.injEq] at H
        obtain⟨rfl,rfl⟩:=H
        go_wp2
        repeat (go_quiet (fail);try go_wp2)
        go_ret2
        exact⟨_,zG,zR HO_4.out,zB⟩
end Go.Proofs.YteeikgjjgfdjgaaGreat.PK
end
section
namespace Go.Proofs.YteeikgjjgfdjgaaGreat.PK
open Go.RowKit YteeikgjjgfdjgaaGreatW.PrintWords YteeikgjjgfdjgaaGreatW.PrintLast YteeikgjjgfdjgaaGreatW.PrintMore
attribute [local go_sem] yco ycp yc5 yc4 yck ycl ycs yct
set_option linter.unusedVariables false
set_option linter.unusedSimpArgs false
def yfk.l0:Nat→Int→Int→List (S53)→List Int→List (List Int)→List Int→Int→Option (List Int)
 | 0,_,_,_,_,_,_,_=>none
 | k+1,x0,x1,x2,x7,x8,x9,x10=>if x10<(x2.length:Int) then (if 0≤x10 then (if ((yaj x2 x10).f0=true) then (yfk.l0 k x0 x1 x2 x7 x8 x9 (wrap64 (x10+1))) else (if x7.length<17592186044416 then ((some (x7++[(yaj x2 x10).f1]:List Int)).bind fun y841=>(if x8.length<5864062014805 then ((some (x8++[(yaj x2 x10).f2]:List (List Int))).bind fun y845=>(if x0≤6 then ((ydm.f ((yaj x2 x10).f1)).bind fun t849=>((yae.f k t849).bind fun t850=>((ybw.f k x9 t850).bind fun t853=>(yfk.l0 k x0 x1 x2 y841 y845 t853 (wrap64 (x10+1)))))) else ((yae.f k (IntKind.u64.wrap ((((yaj x2 x10).f2).length:Int)))).bind fun t857=>((ybw.f k x9 t857).bind fun t860=>((ybw.f k t860 ((yaj x2 x10).f2)).bind fun t864=>(yfk.l0 k x0 x1 x2 y841 y845 t864 (wrap64 (x10+1)))))))) else (none))) else (none))) else (none)) else (if x1=2 then ((yb4.f k x7).bind fun bt867=>(some bt867.1)) else (if x1=3 then ((ybo.f k x7).bind fun bt871=>(some bt871.1)) else (if x1=4 then ((ya7.f k x8).bind fun bt875=>(some bt875.1)) else (if x1=5 then ((yaw.f k x8).bind fun bt879=>(some bt879.1)) else (some x9)))))
def yfk.f (k:Nat) (a0:Int) (a1:Int) (l2:List (S53)):Option (List Int):=yfk.l0 k a0 a1 l2 (([]:List Int)) (([]:List (List Int))) (([]:List Int)) 0
end Go.Proofs.YteeikgjjgfdjgaaGreat.PK
end
section
namespace Go.Proofs.YteeikgjjgfdjgaaGreat.PK
open Go.RowKit YteeikgjjgfdjgaaGreatW.PrintWords YteeikgjjgfdjgaaGreatW.PrintLast YteeikgjjgfdjgaaGreatW.PrintMore
attribute [local go_sem] yco ycp yc5 yc4 yck ycl ycs yct
set_option linter.unusedVariables false
set_option linter.unusedSimpArgs false
mutual
def yef.l0:Nat→Int→Int→List (S53)→List Int→List Int→Int→Int→Option (List Int×Int)
 | 0,_,_,_,_,_,_,_=>none
 | k+1,x0,x1,x2,x8,x9,x10,x11=>if x11<(x2.length:Int) then (if 0≤x11 then (if (yaj x2 x11).f0=true then (if x9.length<17592186044416 then (yef.l0 k x0 x1 x2 x8 (x9++[1]) 1 (wrap64 (x11+1))) else (none)) else (if x9.length<17592186044416 then (yef.l0 k x0 x1 x2 x8 (x9++[0]) x10 (wrap64 (x11+1))) else (none))) else (none)) else (if x8.length<140737488355328 then ((some (x8++[x10]:List Int)).bind fun y902=>(if x10=1 then ((yag.f k 1 x9).bind fun bt905=>((ybw.f k y902 bt905.1).bind fun t909=>(yef.j1 k x0 x1 x2 t909))) else (yef.j1 k x0 x1 x2 y902))) else (none))
def yef.j1:Nat→Int→Int→List (S53)→List Int→Option (List Int×Int)
 | 0,_,_,_,_=>none
 | k+1,x0,x1,x2,x8=>(yfk.f k x0 x1 x2).bind fun t912=>((ybw.f k x8 t912).bind fun t915=>(if (wrap64 ((t915.length:Int)+4)) > 65000 then (some (([]:List Int),4)) else ((yeq.f k t915).bind fun t918=>(some (t918,0)))))
end
def yef.f (k:Nat) (a0:Int) (a1:Int) (l2:List (S53)):Option (List Int×Int):=(yae.f k (IntKind.u64.wrap ((l2.length:Int)))).bind fun t886=>((ybw.f k (([(a1)%256]:List Int)) t886).bind fun t889=>(yef.l0 k a0 a1 l2 t889 (([]:List Int)) 0 0))
end Go.Proofs.YteeikgjjgfdjgaaGreat.PK
end
section
namespace Go.Proofs.YteeikgjjgfdjgaaGreat.PK
open Go.RowKit YteeikgjjgfdjgaaGreatW.PrintWords YteeikgjjgfdjgaaGreatW.PrintLast YteeikgjjgfdjgaaGreatW.PrintMore
attribute [local go_sem] yco ycp yc5 yc4 yck ycl ycs yct
set_option linter.unusedVariables false
set_option linter.unusedSimpArgs false
mutual
def stoaref12_Best.j0:Nat→Int→List (S53)→Bool→Option (Int×List Int×Int)
 | 0,_,_,_=>none
 | k+1,x0,x1,x18=>if x18=true then (some (0,([]:List Int),1)) else ((ybz.f k x0 x1).bind fun t927=>(if t927=0 then (stoaref12_Best.l0 k x0 x1 0 (([]:List Int)) 1) else (some (0,([]:List Int),t927))))
def stoaref12_Best.l0:Nat→Int→List (S53)→Int→List Int→Int→Option (Int×List Int×Int)
 | 0,_,_,_,_,_=>none
 | k+1,x0,x1,x8,x9,x10=>if x10≤5 then ((yer.f x0 x10).bind fun t931=>(if t931=true then ((yef.f k x0 x10 x1).bind fun bt932=>(if bt932.2=0 then (if x8=0 then (stoaref12_Best.l0 k x0 x1 x10 bt932.1 (wrap64 (x10+1))) else (if (bt932.1.length:Int)<(x9.length:Int) then (stoaref12_Best.l0 k x0 x1 x10 bt932.1 (wrap64 (x10+1))) else (stoaref12_Best.l0 k x0 x1 x8 x9 (wrap64 (x10+1))))) else (stoaref12_Best.l0 k x0 x1 x8 x9 (wrap64 (x10+1))))) else (stoaref12_Best.l0 k x0 x1 x8 x9 (wrap64 (x10+1))))) else (if x8=0 then (some (0,([]:List Int),4)) else (some (x8,x9,0)))
end
mutual
def yar.j0:Nat→List Int→Int→Int→List Int→Bool→Option (List Int)
 | 0,_,_,_,_,_=>none
 | k+1,x0,x1,x2,x7,x22=>if x22=true then (some x7) else (yar.l0 k x0 x7 (IntKind.u64.wrap (x2)) x1)
def yar.l0:Nat→List Int→List Int→Int→Int→Option (List Int)
 | 0,_,_,_,_=>none
 | k+1,x0,x7,x8,x9=>if x8 > 0 then (if x9≥(wrap64 (8*(x0.length:Int))) then ((yas.f k x0).bind fun t919=>(some t919)) else (if (Int.tmod x8 2)=1 then (yar.l1 k x0 x7 x8 x9 1 0) else (yar.l0 k x0 x7 (IntKind.u64.wrap (Int.tdiv x8 2)) (wrap64 (x9+1))))) else (some x7)
def yar.l1:Nat→List Int→List Int→Int→Int→Int→Int→Option (List Int)
 | 0,_,_,_,_,_,_=>none
 | k+1,x0,x7,x8,x9,x10,x11=>if x11<(Int.tmod x9 8) then (yar.l1 k x0 x7 x8 x9 ((x10*2)%256) (wrap64 (x11+1))) else (if 0≤(wrap64 (Int.tdiv x9 8)) then (if (wrap64 (Int.tdiv x9 8))<(x7.length:Int) then (yar.l0 k x0 (x7.set ((wrap64 (Int.tdiv x9 8)):Int).toNat (Go.bits .xor .u8 (rd x7 (wrap64 (Int.tdiv x9 8))) x10)) (IntKind.u64.wrap (Int.tdiv x8 2)) (wrap64 (x9+1))) else (none)) else (none))
end
def yar.f (k:Nat) (l0:List Int) (a1:Int) (a2:Int):Option (List Int):=(yas.f k l0).bind fun t916=>(if a1<0 then (yar.j0 k l0 a1 a2 t916 true) else (yar.j0 k l0 a1 a2 t916 (decide (a1≥(wrap64 (8*(l0.length:Int)))))))
theorem yar.calls (k:Nat) (A0:Option Addr) (c0:Nat) (l0:List Int) (a1:Int) (a2:Int) (r:List Int) (w:World) (hr0:Kd.C (Kd.int .u8) w A0 l0.length l0) (hc0:l0.length≤c0) (h:yar.f k l0 a1 a2=some r) :
  Calls Tryz.prog 25 #[.slice A0 l0.length c0,.int .i64 a1,.int .u32 a2] w fun e w'=>∃ v0_:Value,e=.returned (v0_)∧Kd.R (Kd.int .u8) 5 w' w.heap.size (fun _=>True) v0_ r∧Below w.heap.size w w':=by
 have HR0:=yaa.mk hr0
 have HC0:=yaa.mk hc0
 clear hr0 hc0
 have HB:=yaa.mk (Below.refl w.heap.size w)
 have H:((yas.f k l0).bind fun t916=>(if a1<0 then (yar.j0 k l0 a1 a2 t916 true) else (yar.j0 k l0 a1 a2 t916 (decide (a1≥(wrap64 (8*(l0.length:Int))))))))=some r:=h
 clear h
 replace H:=Option.bind_eq_some_iff.mp H
 obtain⟨t916,A40,H⟩:=H
 try dsimp only at H
 have A4:=yaa.mk A40
 clear A40
 have HC5:=yaa.mk H
 clear H
 go_enter Tryz.func25,Tryz.ntmps25
 go_upto_region 2 with (first|((with_reducible refine yah (f:=24) rfl ?_);refine ya6 (some 13) rfl rfl Tryz.func24 (by kernel_rfl) rfl #[.slice A0 l0.length c0] rfl zE ?_;(with_reducible refine(yas.calls k _ _ l0 t916 _ ?side1 ?side2 A4.out).mono ?_);(case side1=>exact zC HR0.out);(case side2=>exact HC0.out);rintro e w6 ⟨v917,rfl,ho0,hb⟩;refine⟨_,rfl,?_⟩;have n0_:=yaa.mk (Kd.R_lower ho0 (yac zB));have n1_:=yaa.mk (yai zB hb);clear HB;have HO918:=n0_;have HB:=n1_;clear n0_ n1_;(try clear hb);(try clear hb2);(try clear hk);(try clear hi);(try clear ho0)))
 (try simp only[Act.put,List.setIfInBounds_toArray,List.set_cons_zero,List.set_cons_succ])
 go_cut [22] (fun v22 wc=>∃ (kq:Nat) (x22_4:Bool),v22=.bool x22_4∧yaa (yar.j0 kq l0 a1 a2 t916 x22_4=some r)∧yaa (kq≤k)∧yaa (Kd.R (Kd.int .u8) 5 wc w.heap.size (fun _=>True) v917 t916)∧yaa (Below w.heap.size w wc))
 case first =>
  have H:=HC5.out
  clear HC5
  by_cases c7:a1<0
  ·rw[if_pos c7] at H
   have c7b0:=decide_eq_true c7
   clear c7
   (first|rw[c7b0]|(simp only[ya4,yba];rw[c7b0])|skip)
   have H':=yaa.mk H
   clear H
   go_wp2
   go_meet
   case rel=>exact⟨_,(true),zF,H',⟨by first|omega|exact Nat.le_refl _⟩,⟨zR HO918.out⟩,⟨zB⟩⟩
  ·rw[if_neg c7] at H
   have c7b0:=decide_eq_false c7
   clear c7
   (first|rw[c7b0]|(simp only[ya4,yba];rw[c7b0])|skip)
   have H':=yaa.mk H
   clear H
   go_wp2
   go_meet
   case rel=>exact⟨_,(decide (a1≥(wrap64 (8*(l0.length:Int))))),zF,H',⟨by first|omega|exact Nat.le_refl _⟩,⟨zR HO918.out⟩,⟨zB⟩⟩
 case rest =>
  clear HC5
  try clear c2
  try clear p2
  try clear p6
  try clear c7
  try clear c7b0
  obtain⟨kq,x22_4,rfl,HA,HJ4,HO_7,HB⟩:=hcut
  cases kq with
  | zero=>exact absurd HA.out (by simp [yar.j0])
  | succ kj4 =>
   have H:=HA.out
   clear HA
   simp only[yar.j0] at H
   by_cases c8:x22_4=true
   ·subst c8
    have H1:(some t916)=some r:=by rw[if_pos rfl] at H;exact H
    clear H
    have H:=H1
    clear H1
    obtain rfl:=Option.some.inj H
    go_wp2
    go_ret
    exact⟨_,zG,zR HO_7.out,zB⟩
   ·replace c8:=Bool.eq_false_iff.mpr c8
    subst c8
    have H1:(yar.l0 kj4 l0 t916 (IntKind.u64.wrap (a2)) a1)=some r:=by rw[if_neg (show ¬ (false=true) by decide)] at H;exact H
    clear H
    have H:=H1
    clear H1
    have H':=yaa.mk H
    clear H
    go_wp2
    go_loopg [8,9] kj4 (fun kq v8 v9 w'=>∃ (x7_2:List Int) (x8_2:Int) (x9_2:Int),v8=.int .u64 x8_2∧v9=.int .i64 x9_2∧yaa (yar.l0 kq l0 x7_2 x8_2 x9_2=some r)∧yaa (kq≤kj4)∧yaa (Kd.R (Kd.int .u8) 5 w' w.heap.size (fun _=>True) v917 x7_2)∧yaa (Below w.heap.size w w'))
    case atStart=>exact⟨(t916),(IntKind.u64.wrap (a2)),(a1),zF,zF,H',⟨Nat.le_refl _⟩,⟨zR HO_7.out⟩,⟨zB⟩⟩
    case round =>
     clear H'
     try clear c2
     try clear p2
     try clear p6
     try clear c7
     try clear c7b0
     try clear c8
     try clear p2
     try clear p6
     obtain⟨x7_2,x8_2,x9_2,rfl,rfl,HA,HK2,HO_7,HB⟩:=hrel
     cases gk with
     | zero=>exact absurd HA.out (by simp [yar.l0])
     | succ k2 =>
      have H:=HA.out
      clear HA
      simp only[yar.l0] at H
      by_cases c9:x8_2 > 0
      ·rw[if_pos c9] at H
       have c9b0:decide (0<x8_2)=true:=decide_eq_true c9
       clear c9
       by_cases c10:x9_2≥(wrap64 (8*(l0.length:Int)))
       ·rw[if_pos c10] at H
        have c10b0:decide ((wrap64 (8*(l0.length:Int)))≤x9_2)=true:=decide_eq_true c10
        clear c10
        replace H:=Option.bind_eq_some_iff.mp H
        obtain⟨t919,A110,H⟩:=H
        try dsimp only at H
        have A11:=yaa.mk A110
        clear A110
        obtain rfl:=Option.some.inj H
        go_wp2_with (first|((with_reducible refine yah (f:=24) rfl ?_);refine ya6 (some 37) rfl rfl Tryz.func24 (by kernel_rfl) rfl #[.slice A0 l0.length c0] rfl zE ?_;(with_reducible refine(yas.calls k2 _ _ l0 t919 _ ?side1 ?side2 A11.out).mono ?_);(case side1=>exact zC (Kd.C_below HR0.out HB.out));(case side2=>exact HC0.out);rintro e w12 ⟨v920,rfl,ho0,hb⟩;refine⟨_,rfl,?_⟩;have n0_:=yaa.mk (Kd.R_elder' (zR HO_7.out) (Kd.R_base ho0) hb);have n1_:=yaa.mk (Kd.R_lower (Kd.R_new' ho0 (Kd.R_lt (zR HO_7.out))) (yac zB));have n2_:=yaa.mk (yai zB hb);clear HO_7;clear HB;have HO_7:=n0_;have HO921:=n1_;have HB:=n2_;clear n0_ n1_ n2_;(try clear hb);(try clear hb2);(try clear hk);(try clear hi);(try clear ho0)))
        go_ret
        exact⟨_,zG,by (with_reducible repeat (first|apply Kd.R_alloc|apply Kd.R_drewN|apply Kd.R_drew));exact Kd.R_mono HO921.out (fun _ hk=>trivial),zB⟩
       ·rw[if_neg c10] at H
        have c10b0:decide ((wrap64 (8*(l0.length:Int)))≤x9_2)=false:=decide_eq_false c10
        clear c10
        by_cases c13:(Int.tmod x8_2 2)=1
        ·rw[if_pos c13] at H
         have c13b0:((Int.tmod x8_2 2) == 1)=true:=beq_iff_eq.mpr c13
         have c13b1:((Int.tmod x8_2 2) != 1)=false:=bne_eq_false_iff_eq.mpr c13
         clear c13
         have H':=yaa.mk H
         clear H
         go_wp2
         go_loopg [10,11] k2 (fun kq v10 v11 w'=>∃ (x10_3:Int) (x11_3:Int),v10=.int .u8 x10_3∧v11=.int .i64 x11_3∧yaa (yar.l1 kq l0 x7_2 x8_2 x9_2 x10_3 x11_3=some r)∧yaa (kq≤k2)∧yaa (Kd.R (Kd.int .u8) 5 w' w.heap.size (fun _=>True) v917 x7_2)∧yaa (Below w.heap.size w w'))
         case atStart=>exact⟨(1),(0),zF,zF,H',⟨Nat.le_refl _⟩,⟨zR HO_7.out⟩,⟨zB⟩⟩
         case round =>
          clear H'
          try clear c1
          try clear c2
          try clear p2
          try clear p6
          try clear c7
          try clear c7b0
          try clear c8
          try clear c9
          try clear c9b0
          try clear c10
          try clear c10b0
          try clear c13
          try clear c13b0
          try clear c13b1
          try clear p2
          try clear p6
          obtain⟨x10_3,x11_3,rfl,rfl,HA,HK3,HO_7,HB⟩:=hrel
          cases gk with
          | zero=>exact absurd HA.out (by simp [yar.l1])
          | succ k3 =>
           have H:=HA.out
           clear HA
           simp only[yar.l1] at H
           by_cases c14:x11_3<(Int.tmod x9_2 8)
           ·rw[if_pos c14] at H
            have c14b0:=decide_eq_true c14
            clear c14
            have H':=yaa.mk H
            clear H
            go_wp2
            go_roundg k3
            case measure=>have:=HJ4.out;have:=HK2.out;have:=HK3.out;omega
            case rel=>exact⟨((x10_3*2)%256),(wrap64 (x11_3+1)),zF,zF,H',⟨by have:=HJ4.out;have:=HK2.out;have:=HK3.out;omega⟩,⟨zR HO_7.out⟩,⟨zB⟩⟩
           ·rw[if_neg c14] at H
            have c14b0:=decide_eq_false c14
            clear c14
            obtain⟨ji15,hji15⟩:∃ j_:Int,(wrap64 (Int.tdiv x9_2 8))=j_:=⟨_,rfl⟩
            replace H:(if 0≤(ji15) then (if (ji15)<(x7_2.length:Int) then (yar.l0 k3 l0 (x7_2.set ((ji15):Int).toNat (Go.bits .xor .u8 (rd x7_2 (ji15)) x10_3)) (IntKind.u64.wrap (Int.tdiv x8_2 2)) (wrap64 (x9_2+1))) else (none)) else (none))=some r:=by first|(rw[hji15] at H;exact H)|(simp only[hji15] at H ⊢;exact H)
            have hji15w:(IntKind.i64.wrap (Int.tdiv x9_2 8))=ji15:=(ya4 _).trans hji15
            by_cases c16:0≤(ji15)
            ·rw[if_pos c16] at H
             have c16b0:=decide_eq_true c16
             clear c16
             by_cases c17:(ji15)<(x7_2.length:Int)
             ·rw[if_pos c17] at H
              have c17b0:=decide_eq_true c17
              clear c17
              obtain⟨y923,hy923⟩:∃ y_:List Int,y_=(x7_2.set ((ji15):Int).toNat (Go.bits .xor .u8 (rd x7_2 (ji15)) x10_3)):=⟨_,rfl⟩
              replace H:(yar.l0 k3 l0 y923 (IntKind.u64.wrap (Int.tdiv x8_2 2)) (wrap64 (x9_2+1)))=some r:=by first|(rw[hy923];with_reducible exact H)|(have H2_:=(Option.bind_some _ _).symm.trans H;rw[hy923];with_reducible exact H2_)|(have H2_:=(Option.bind_some _ _).symm.trans H;with_reducible exact H2_)|with_reducible exact H|(rw[hy923];exact H)|exact H
              have Ny923:=yaa.mk hy923
              clear hy923
              have H':=yaa.mk H
              clear H
              obtain⟨Ao19,co19,eo19⟩:=Kd.R_slice HO_7.out
              subst eo19
              have p922:0≤((ji15):Int):=of_decide_eq_true zA
              have q922:(ji15)<(x7_2.length:Int):=of_decide_eq_true zA
              obtain⟨ad922,e922,hx922_0⟩:=Kd.at_int (Kd.R_reads' HO_7.out).2.2 (ji15) p922 q922
              cases e922
              replace p922:=eq_true p922
              replace q922:=eq_true q922
              have p18:0≤((ji15):Int):=of_decide_eq_true zA
              have q18:((ji15):Int)<((x7_2.length:Int):Int):=of_decide_eq_true zA
              obtain⟨go18,co18,eo18,gb18,gl18,cl18,HG18⟩:=Kd.R_form HO_7.out (by omega)
              (first|cases eo18|(injection eo18 with ea_ en_ ec_;(first|subst ea_|(injection ea_ with ea_;subst ea_));subst ec_;clear en_))
              have GB18:=yaa.mk gb18
              have GG18:=yaa.mk HG18
              clear gb18 gl18 HG18
              (first|simp only[yc7] at hx922_0|skip)
              obtain⟨hx18_0,hf18_0⟩:=Kd.R_celln 0 HO_7.out ((ji15):Int) p18 q18
              replace p18:=eq_true p18
              replace q18:=eq_true q18
              have HP20:=Kd.R_putg HO_7.out ((ji15):Int) (Go.bits .xor .u8 (rd x7_2 (ji15)) x10_3)
              go_wp2_with (first|((with_reducible refine yfw (t:=5) (p:=59) rfl ?_);refine yfh (t:=5) (p:=59) (v:=?vo_w21) (w1:=(wr.setCell ⟨go18,((ji15):Int).toNat,none⟩ (.int .u8 (Go.bits .xor .u8 (rd x7_2 (ji15)) x10_3)))) ?hg ?ho ?hn ?hr ?_;(case ho=>rfl);(case hg=>rfl);(case hn=>rfl);(case hr=>first|(go_simp;done)|(go_simp;rfl));intro w21 hw;have hg:wr.grownBy w21 (some go18):=(by rw[hw];exact HP20.2);have hp_:Kd.R (Kd.int .u8) 5 w21 w.heap.size (fun _=>True) (.slice (some ⟨go18,0,none⟩) x7_2.length co19) y923:=(by rw[hw,Ny923.out];exact HP20.1);clear HP20;have n0_:=yaa.mk (hp_);have n1_:=yaa.mk ((by rw[hw];exact ydu (HB.out) GB18.out:Below w.heap.size w w21));clear HO_7;clear HB;have HO_7:=n0_;have HB:=n1_;clear n0_ n1_;clear hg hw hp_))
              go_roundg k3
              case measure=>have:=HJ4.out;have:=HK2.out;have:=HK3.out;omega
              case rel=>exact⟨(y923),(IntKind.u64.wrap (Int.tdiv x8_2 2)),(wrap64 (x9_2+1)),zF,zF,H',⟨by have:=HJ4.out;have:=HK2.out;have:=HK3.out;omega⟩,⟨zR HO_7.out⟩,⟨zB⟩⟩
             ·rw[if_neg c17] at H
              exact absurd H (by simp)
            ·rw[if_neg c16] at H
             exact absurd H (by simp)
        ·rw[if_neg c13] at H
         have c13b0:((Int.tmod x8_2 2) == 1)=false:=beq_eq_false_iff_ne.mpr c13
         have c13b1:((Int.tmod x8_2 2) != 1)=true:=bne_iff_ne.mpr c13
         have H':=yaa.mk H
         clear H
         go_wp2
         go_roundg k2
         case measure=>have:=HJ4.out;have:=HK2.out;omega
         case rel=>exact⟨(x7_2),(IntKind.u64.wrap (Int.tdiv x8_2 2)),(wrap64 (x9_2+1)),zF,zF,H',⟨by have:=HJ4.out;have:=HK2.out;omega⟩,⟨zR HO_7.out⟩,⟨zB⟩⟩
      ·rw[if_neg c9] at H
       have c9b0:decide (0<x8_2)=false:=decide_eq_false c9
       clear c9
       obtain rfl:=Option.some.inj H
       go_wp2
       go_ret
       exact⟨_,zG,zR HO_7.out,zB⟩
end Go.Proofs.YteeikgjjgfdjgaaGreat.PK
end
