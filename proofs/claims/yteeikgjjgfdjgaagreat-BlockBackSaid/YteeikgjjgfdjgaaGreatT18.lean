/-
  Parts of the proof: E16, E17, E18, E27.
-/
import Derived.Test.YteeikgjjgfdjgaaGreatT3
import Derived.Test.YteeikgjjgfdjgaaGreatT9
import Derived.Test.YteeikgjjgfdjgaaGreatT17
import Derived.Test.YteeikgjjgfdjgaaGreatT7
import Derived.Test.YteeikgjjgfdjgaaGreatT10
import Derived.Test.YteeikgjjgfdjgaaGreatT11
import Derived.Test.YteeikgjjgfdjgaaGreatT8
section
namespace Go.Proofs.YteeikgjjgfdjgaaGreat.PK
open Go.RowKit Go.Proofs.YteeikgjjgfdjgaaGreatW.PrintWords Go.Proofs.YteeikgjjgfdjgaaGreatW.PrintLast Go.Proofs.YteeikgjjgfdjgaaGreatW.PrintMore
attribute [local go_sem] ycl ycm yc0 yc2 ych yci ycr ycs
set_option linter.unusedVariables false
set_option linter.unusedSimpArgs false
mutual
def yas.l0:Nat→List (List Int)→List Int→Int→Option (List Int×Int)
 | 0,_,_,_=>none
 | k+1,x0,x4,x5=>if x5<(x0.length:Int) then (if 0≤x5 then (if ((ya8 x0 x5).length:Int) > 200 then (some (([]:List Int),4)) else (yas.l0 k x0 x4 (wrap64 (x5+1)))) else (none)) else (yas.l1 k x0 x4 0)
def yas.l1:Nat→List (List Int)→List Int→Int→Option (List Int×Int)
 | 0,_,_,_=>none
 | k+1,x0,x4,x6=>if x6<(x0.length:Int) then (if (Int.tmod x6 16)=0 then (yas.j2 k x0 x4 x6 0) else (if 0≤(wrap64 (x6-1)) then (if (wrap64 (x6-1))<(x0.length:Int) then (if 0≤x6 then ((ybq.f k (ya8 x0 (wrap64 (x6-1))) (ya8 x0 x6)).bind fun t811=>(yas.j2 k x0 x4 x6 t811)) else (none)) else (none)) else (none))) else (some (x4,0))
def yas.j2:Nat→List (List Int)→List Int→Int→Int→Option (List Int×Int)
 | 0,_,_,_,_=>none
 | k+1,x0,x4,x6,x7=>(yad.f k (IntKind.u64.wrap (x7))).bind fun t812=>((yba.f k x4 t812).bind fun t815=>(if 0≤x6 then (if x6<(x0.length:Int) then ((yad.f k (IntKind.u64.wrap (wrap64 (((ya8 x0 x6).length:Int)-x7)))).bind fun t819=>((yba.f k t815 t819).bind fun t822=>(if 0≤x7 then (if x7≤((ya8 x0 x6).length:Int) then ((yba.f k t822 ((ya8 x0 x6).drop (x7:Int).toNat)).bind fun t827=>(yas.l1 k x0 t827 (wrap64 (x6+1)))) else (none)) else (none)))) else (none)) else (none)))
end
def yas.f (k:Nat) (l0:List (List Int)):Option (List Int×Int):=if (l0.length:Int) > 4096 then (some (([]:List Int),4)) else ((yad.f k (IntKind.u64.wrap ((l0.length:Int)))).bind fun t805=>(yas.l0 k l0 t805 0))
set_option maxHeartbeats 8000000 in
set_option maxRecDepth 100000 in
theorem yas.calls (k:Nat) (A0:Option Addr) (c0:Nat) (l0:List (List Int)) (r1:List Int) (r2:Int) (w:World) (hr0:Kd.C (Kd.slice 5 (Kd.int .u8)) w A0 l0.length l0) (hc0:l0.length≤c0) (h:yas.f k l0=some (r1,r2)) :
  Calls Tryz.prog 99 #[.slice A0 l0.length c0] w fun e w'=>∃ v0_:Value,e=.returned (.tuple #[v0_,.int .i64 r2])∧Kd.R (Kd.int .u8) 5 w' w.heap.size (fun _=>True) v0_ r1∧Below w.heap.size w w':=by
 have HR0:=Aside0.mk hr0
 have HC0:=Aside0.mk hc0
 clear hr0 hc0
 have HB:=Aside0.mk (Below.refl w.heap.size w)
 have H:(if (l0.length:Int) > 4096 then (some (([]:List Int),4)) else ((yad.f k (IntKind.u64.wrap ((l0.length:Int)))).bind fun t805=>(yas.l0 k l0 t805 0)))=some (r1,r2):=h
 clear h
 by_cases c2:(l0.length:Int) > 4096
 ·rw[if_pos c2] at H
  have c2b0:decide (4096<(l0.length:Int))=true:=decide_eq_true c2
  have c2b1:decide (4096<l0.length)=true:=decide_eq_true (by omega)
  clear c2
  simp only[Option.some.injEq,Prod.mk.injEq] at H
  obtain⟨rfl,rfl⟩:=H
  go_enter Tryz.func99,Tryz.ntmps99
  go_wp2
  repeat (go_quiet (fail);try go_wp2)
  go_ret2
  exact⟨_,zG,zN,zB⟩
 ·rw[if_neg c2] at H
  have c2b0:decide (4096<(l0.length:Int))=false:=decide_eq_false c2
  have c2b1:decide (4096<l0.length)=false:=decide_eq_false (by omega)
  clear c2
  replace H:=Option.bind_eq_some_iff.mp H
  obtain⟨t805,A30,H⟩:=H
  try dsimp only at H
  have A3:=Aside0.mk A30
  clear A30
  have H':=Aside0.mk H
  clear H
  go_enter Tryz.func99,Tryz.ntmps99
  go_wp2_with (first|(go_at_call 58;(with_reducible refine(yad.calls k (IntKind.u64.wrap ((l0.length:Int))) t805 _ A3.out).mono ?_);rintro e w4 ⟨v806,rfl,ho0,hb⟩;have n0_:=Aside0.mk (Kd.R_lower ho0 (yab zB));have n1_:=Aside0.mk (yai zB hb);clear HB;have HO807:=n0_;have HB:=n1_;clear n0_ n1_;(try clear hb);(try clear hb2);(try clear hk);(try clear hi);(try clear ho0)))
  repeat (go_quiet (first|(go_at_call 58;(with_reducible refine(yad.calls k (IntKind.u64.wrap ((l0.length:Int))) t805 _ A3.out).mono ?_);rintro e w4 ⟨v806,rfl,ho0,hb⟩;have n0_:=Aside0.mk (Kd.R_lower ho0 (yab zB));have n1_:=Aside0.mk (yai zB hb);clear HB;have HO807:=n0_;have HB:=n1_;clear n0_ n1_;(try clear hb);(try clear hb2);(try clear hk);(try clear hi);(try clear ho0)));try go_wp2_with (first|(go_at_call 58;(with_reducible refine(yad.calls k (IntKind.u64.wrap ((l0.length:Int))) t805 _ A3.out).mono ?_);rintro e w4 ⟨v806,rfl,ho0,hb⟩;have n0_:=Aside0.mk (Kd.R_lower ho0 (yab zB));have n1_:=Aside0.mk (yai zB hb);clear HB;have HO807:=n0_;have HB:=n1_;clear n0_ n1_;(try clear hb);(try clear hb2);(try clear hk);(try clear hi);(try clear ho0))))
  go_loopg [5] k (fun kq v5 w'=>∃ (x5_1:Int),v5=.int .i64 x5_1∧Aside0 (yas.l0 kq l0 t805 x5_1=some (r1,r2))∧Aside0 (kq≤k)∧Aside0 (Kd.R (Kd.int .u8) 5 w' w.heap.size (fun _=>True) v806 t805)∧Aside0 (Below w.heap.size w w'))
  case atStart=>exact⟨(0),zF,H',⟨Nat.le_refl _⟩,⟨zR HO807.out⟩,⟨zB⟩⟩
  case round =>
   clear H'
   try clear c2
   try clear c2b0
   try clear c2b1
   try clear p2
   obtain⟨x5_1,rfl,HA,HK1,HO_4,HB⟩:=hrel
   cases gk with
   | zero=>exact absurd HA.out (by simp [yas.l0])
   | succ k1 =>
    have H:=HA.out
    clear HA
    simp only[yas.l0] at H
    by_cases c5:x5_1<(l0.length:Int)
    ·rw[if_pos c5] at H
     have c5b0:=decide_eq_true c5
     clear c5
     by_cases c6:0≤x5_1
     ·rw[if_pos c6] at H
      have c6b0:=decide_eq_true c6
      clear c6
      by_cases c7:((ya8 l0 x5_1).length:Int) > 200
      ·rw[if_pos c7] at H
       have c7b0:decide (200<((ya8 l0 x5_1).length:Int))=true:=decide_eq_true c7
       have c7b1:decide (200<(ya8 l0 x5_1).length)=true:=decide_eq_true (by omega)
       clear c7
       simp only[Option.some.injEq,Prod.mk.injEq] at H
       obtain⟨rfl,rfl⟩:=H
       have p808:0≤(x5_1:Int):=of_decide_eq_true zA
       have q808:x5_1<(l0.length:Int):=of_decide_eq_true zA
       obtain⟨ad808,A808_0,c808_0,e808,hx808_0,hl808_0,hi808_0⟩:=yd3 HR0.out x5_1 p808 q808
       cases e808
       replace hx808_0:=(HB.out.cell (World.block_lt_of_cell? w _ hx808_0)).trans hx808_0
       have HR808_0:=Aside0.mk hi808_0
       have HC808_0:=Aside0.mk hl808_0
       clear hi808_0 hl808_0
       replace p808:=eq_true p808
       replace q808:=eq_true q808
       go_wp2
       repeat (go_quiet (fail);try go_wp2)
       go_ret2
       exact⟨_,zG,zN,zB⟩
      ·rw[if_neg c7] at H
       have c7b0:decide (200<((ya8 l0 x5_1).length:Int))=false:=decide_eq_false c7
       have c7b1:decide (200<(ya8 l0 x5_1).length)=false:=decide_eq_false (by omega)
       clear c7
       have H':=Aside0.mk H
       clear H
       have p808:0≤(x5_1:Int):=of_decide_eq_true zA
       have q808:x5_1<(l0.length:Int):=of_decide_eq_true zA
       obtain⟨ad808,A808_0,c808_0,e808,hx808_0,hl808_0,hi808_0⟩:=yd3 HR0.out x5_1 p808 q808
       cases e808
       replace hx808_0:=(HB.out.cell (World.block_lt_of_cell? w _ hx808_0)).trans hx808_0
       have HR808_0:=Aside0.mk hi808_0
       have HC808_0:=Aside0.mk hl808_0
       clear hi808_0 hl808_0
       replace p808:=eq_true p808
       replace q808:=eq_true q808
       go_wp2
       repeat (go_quiet (fail);try go_wp2)
       go_roundg k1
       case measure=>have:=HK1.out;omega
       case rel=>exact⟨(wrap64 (x5_1+1)),zF,H',⟨by have:=HK1.out;omega⟩,⟨zR HO_4.out⟩,⟨zB⟩⟩
     ·rw[if_neg c6] at H
      exact absurd H (by simp)
    ·rw[if_neg c5] at H
     have c5b0:=decide_eq_false c5
     clear c5
     have H':=Aside0.mk H
     clear H
     go_wp2
     repeat (go_quiet (fail);try go_wp2)
     go_loopg [4,6] k1 (fun kq v4 v6 w'=>∃ (x4_2:List Int) (x6_2:Int),v6=.int .i64 x6_2∧Aside0 (yas.l1 kq l0 x4_2 x6_2=some (r1,r2))∧Aside0 (kq≤k1)∧Aside0 (Kd.R (Kd.int .u8) 5 w' w.heap.size (fun _=>True) v4 x4_2)∧Aside0 (Below w.heap.size w w'))
     case atStart=>exact⟨(t805),(0),zF,H',⟨Nat.le_refl _⟩,⟨zR HO_4.out⟩,⟨zB⟩⟩
     case round =>
      clear H'
      try clear c2
      try clear c2b0
      try clear c2b1
      try clear p2
      try clear c5
      try clear c5b0
      try clear c6
      try clear c6b0
      try clear p6
      try clear c7
      try clear c7b0
      try clear c7b1
      try clear hx808_0
      try clear p2
      try clear p808
      try clear q808
      obtain⟨x4_2,x6_2,rfl,HA,HK2,HO_4,HB⟩:=hrel
      cases gk with
      | zero=>exact absurd HA.out (by simp [yas.l1])
      | succ k2 =>
       have H:=HA.out
       clear HA
       simp only[yas.l1] at H
       by_cases c8:x6_2<(l0.length:Int)
       ·rw[if_pos c8] at H
        have c8b0:=decide_eq_true c8
        clear c8
        have HC9:=Aside0.mk H
        clear H
        go_upto_if 35 with (fail)
        repeat (go_quiet (fail);go_upto_if 35 with (fail))
        go_cut [7] (fun v7 wc=>∃ (kq:Nat) (x7_8:Int),v7=.int .i64 x7_8∧Aside0 (yas.j2 kq l0 x4_2 x6_2 x7_8=some (r1,r2))∧Aside0 (kq≤k2)∧Aside0 (Kd.R (Kd.int .u8) 5 wc w.heap.size (fun _=>True) u4 x4_2)∧Aside0 (Below w.heap.size w wc))
        case first =>
         have H:=HC9.out
         clear HC9
         by_cases c10:(Int.tmod x6_2 16)=0
         ·rw[if_pos c10] at H
          have c10b0:((Int.tmod x6_2 16) == 0)=true:=beq_iff_eq.mpr c10
          have c10b1:((Int.tmod x6_2 16) != 0)=false:=bne_eq_false_iff_eq.mpr c10
          clear c10
          (first|rw[c10b0]|(simp only[ya2,ya7];rw[c10b0])|skip)
          have H':=Aside0.mk H
          clear H
          go_wp2
          repeat (go_quiet (fail);try go_wp2)
          go_meet
          case rel=>exact⟨_,(0),zF,H',⟨by have:=HK1.out;have:=HK2.out;first|omega|exact Nat.le_refl _⟩,⟨zR HO_4.out⟩,⟨zB⟩⟩
         ·rw[if_neg c10] at H
          have c10b0:((Int.tmod x6_2 16) == 0)=false:=beq_eq_false_iff_ne.mpr c10
          have c10b1:((Int.tmod x6_2 16) != 0)=true:=bne_iff_ne.mpr c10
          (first|rw[c10b0]|(simp only[ya2,ya7];rw[c10b0])|skip)
          obtain⟨ji11,hji11⟩:∃ j_:Int,(wrap64 (x6_2-1))=j_:=⟨_,rfl⟩
          replace H:(if 0≤(ji11) then (if (ji11)<(l0.length:Int) then (if 0≤x6_2 then ((ybq.f k2 (ya8 l0 (ji11)) (ya8 l0 x6_2)).bind fun t811=>(yas.j2 k2 l0 x4_2 x6_2 t811)) else (none)) else (none)) else (none))=some (r1,r2):=by first|(rw[hji11] at H;exact H)|(simp only[hji11] at H ⊢;exact H)
          have hji11w:(IntKind.i64.wrap (x6_2-1))=ji11:=(ya2 _).trans hji11
          by_cases c12:0≤(ji11)
          ·rw[if_pos c12] at H
           have c12b0:=decide_eq_true c12
           clear c12
           by_cases c13:(ji11)<(l0.length:Int)
           ·rw[if_pos c13] at H
            have c13b0:=decide_eq_true c13
            clear c13
            by_cases c14:0≤x6_2
            ·rw[if_pos c14] at H
             have c14b0:=decide_eq_true c14
             clear c14
             replace H:=Option.bind_eq_some_iff.mp H
             obtain⟨t811,A150,H⟩:=H
             try dsimp only at H
             have A15:=Aside0.mk A150
             clear A150
             have H':=Aside0.mk H
             clear H
             have p809:0≤((ji11):Int):=of_decide_eq_true zA
             have q809:(ji11)<(l0.length:Int):=of_decide_eq_true zA
             obtain⟨ad809,A809_0,c809_0,e809,hx809_0,hl809_0,hi809_0⟩:=yd3 HR0.out (ji11) p809 q809
             cases e809
             replace hx809_0:=(HB.out.cell (World.block_lt_of_cell? w _ hx809_0)).trans hx809_0
             have HR809_0:=Aside0.mk hi809_0
             have HC809_0:=Aside0.mk hl809_0
             clear hi809_0 hl809_0
             replace p809:=eq_true p809
             replace q809:=eq_true q809
             have p810:0≤(x6_2:Int):=of_decide_eq_true zA
             have q810:x6_2<(l0.length:Int):=of_decide_eq_true zA
             obtain⟨ad810,A810_0,c810_0,e810,hx810_0,hl810_0,hi810_0⟩:=yd3 HR0.out x6_2 p810 q810
             obtain rfl:ad809=ad810:=(by injection e810)
             replace hx810_0:=(HB.out.cell (World.block_lt_of_cell? w _ hx810_0)).trans hx810_0
             have HR810_0:=Aside0.mk hi810_0
             have HC810_0:=Aside0.mk hl810_0
             clear hi810_0 hl810_0
             replace p810:=eq_true p810
             replace q810:=eq_true q810
             go_wp2_with (first|(go_at_call 133;(with_reducible refine(ybq.calls k2 _ _ (ya8 l0 (ji11)) _ _ (ya8 l0 x6_2) t811 _ ?side1 ?side2 ?side3 ?side4 A15.out).mono ?_);(case side1=>exact zC (Kd.C_below HR809_0.out HB.out));(case side2=>exact HC809_0.out);(case side3=>exact zC (Kd.C_below HR810_0.out HB.out));(case side4=>exact HC810_0.out);rintro e w' ⟨rfl,⟨nd,rfl⟩⟩;(try exact zQ)))
             repeat (go_quiet (first|(go_at_call 133;(with_reducible refine(ybq.calls k2 _ _ (ya8 l0 (ji11)) _ _ (ya8 l0 x6_2) t811 _ ?side1 ?side2 ?side3 ?side4 A15.out).mono ?_);(case side1=>exact zC (Kd.C_below HR809_0.out HB.out));(case side2=>exact HC809_0.out);(case side3=>exact zC (Kd.C_below HR810_0.out HB.out));(case side4=>exact HC810_0.out);rintro e w' ⟨rfl,⟨nd,rfl⟩⟩;(try exact zQ)));try go_wp2_with (first|(go_at_call 133;(with_reducible refine(ybq.calls k2 _ _ (ya8 l0 (ji11)) _ _ (ya8 l0 x6_2) t811 _ ?side1 ?side2 ?side3 ?side4 A15.out).mono ?_);(case side1=>exact zC (Kd.C_below HR809_0.out HB.out));(case side2=>exact HC809_0.out);(case side3=>exact zC (Kd.C_below HR810_0.out HB.out));(case side4=>exact HC810_0.out);rintro e w' ⟨rfl,⟨nd,rfl⟩⟩;(try exact zQ))))
             go_meet
             case rel=>exact⟨_,(t811),zF,H',⟨by have:=HK1.out;have:=HK2.out;first|omega|exact Nat.le_refl _⟩,⟨zR HO_4.out⟩,⟨zB⟩⟩
            ·rw[if_neg c14] at H
             exact absurd H (by simp)
           ·rw[if_neg c13] at H
            exact absurd H (by simp)
          ·rw[if_neg c12] at H
           exact absurd H (by simp)
        case rest =>
         clear HC9
         try clear c1
         try clear c2
         try clear c2b0
         try clear c2b1
         try clear p2
         try clear c5
         try clear c5b0
         try clear c6
         try clear c6b0
         try clear p6
         try clear c7
         try clear c7b0
         try clear c7b1
         try clear c8
         try clear c8b0
         try clear p8
         try clear q8
         try clear hx8
         try clear c9
         try clear c10
         try clear c10b0
         try clear c10b1
         try clear c12
         try clear c12b0
         try clear c13
         try clear c13b0
         try clear c14
         try clear c14b0
         try clear hx808_0
         try clear hx809_0
         try clear hx810_0
         try clear p2
         try clear p6
         try clear p808
         try clear p809
         try clear p810
         try clear q808
         try clear q809
         try clear q810
         obtain⟨kq,x7_8,rfl,HA,HJ8,HO_4,HB⟩:=hcut
         cases kq with
         | zero=>exact absurd HA.out (by simp [yas.j2])
         | succ kj8 =>
          have H:=HA.out
          clear HA
          simp only[yas.j2] at H
          replace H:=Option.bind_eq_some_iff.mp H
          obtain⟨t812,A160,H⟩:=H
          try dsimp only at H
          have A16:=Aside0.mk A160
          clear A160
          replace H:=Option.bind_eq_some_iff.mp H
          obtain⟨t815,A170,H⟩:=H
          try dsimp only at H
          have A17:=Aside0.mk A170
          clear A170
          by_cases c18:0≤x6_2
          ·rw[if_pos c18] at H
           have c18b0:=decide_eq_true c18
           clear c18
           by_cases c19:x6_2<(l0.length:Int)
           ·rw[if_pos c19] at H
            have c19b0:=decide_eq_true c19
            clear c19
            replace H:=Option.bind_eq_some_iff.mp H
            obtain⟨t819,A200,H⟩:=H
            try dsimp only at H
            have A20:=Aside0.mk A200
            clear A200
            replace H:=Option.bind_eq_some_iff.mp H
            obtain⟨t822,A210,H⟩:=H
            try dsimp only at H
            have A21:=Aside0.mk A210
            clear A210
            by_cases c22:0≤x7_8
            ·rw[if_pos c22] at H
             have c22b0:=eq_true c22
             have c22b1:=decide_eq_true c22
             clear c22
             by_cases c23:x7_8≤((ya8 l0 x6_2).length:Int)
             ·rw[if_pos c23] at H
              have c23b0:=eq_true c23
              have c23b1:=decide_eq_true c23
              clear c23
              replace H:=Option.bind_eq_some_iff.mp H
              obtain⟨t827,A240,H⟩:=H
              try dsimp only at H
              have A24:=Aside0.mk A240
              clear A240
              have H':=Aside0.mk H
              clear H
              go_wp2_with (first|(go_at_call 58;(with_reducible refine(yad.calls kj8 (IntKind.u64.wrap (x7_8)) t812 _ A16.out).mono ?_);rintro e w25 ⟨v813,rfl,ho0,hb⟩;have n0_:=Aside0.mk (Kd.R_elder' (zR HO_4.out) (Kd.R_base ho0) hb);have n1_:=Aside0.mk (Kd.R_lower (Kd.R_new' ho0 (Kd.R_lt (zR HO_4.out))) (yab zB));have n2_:=Aside0.mk (yai zB hb);clear HO_4;clear HB;have HO_4:=n0_;have HO814:=n1_;have HB:=n2_;clear n0_ n1_ n2_;(try clear hb);(try clear hb2);(try clear hk);(try clear hi);(try clear ho0);obtain⟨Ao26,co26,eo26⟩:=Kd.R_slice HO_4.out;subst eo26;obtain⟨Ao27,co27,eo27⟩:=Kd.R_slice HO814.out;subst eo27)|(go_at_call 134;(with_reducible refine(yba.calls kj8 (fun k_=>some k_=(.slice Ao26 x4_2.length co26:Value).ownBlock) (.slice Ao26 x4_2.length co26) x4_2 _ _ t812 t815 w _ ?side1 ?side2 ?side3 ?side4 A17.out).mono ?_);(case side1=>exact zB);(case side2=>exact Kd.R_tight rfl HO_4.out);(case side3=>exact Kd.C_kept_own (HO814.out) (fun k_ hk_ hs_=>(hk_.2) hs_));(case side4=>exact(Kd.R_reads' HO814.out).2.1);rintro e w28 ⟨v816,rfl,ho0,hb,hkp⟩;have n0_:=Aside0.mk (Kd.R_mono (ok':=fun k_=>some k_≠(v816:Value).ownBlock) (Kd.R_keptB (HO814.out) hkp (fun k_ hk_ hs_=>(hk_.2) hs_)) (fun k_ hk_=>fun e_=>Or.elim (ho0.1 k_ e_.symm) (fun hs_=>hk_.2.1 hs_) (fun hn_=>Nat.not_le.2 hk_.2.2 hn_)));have n1_:=Aside0.mk (Kd.R_mono (ok':=fun k_=>some k_≠(.slice Ao27 t812.length co27:Value).ownBlock) ho0 (fun k_ hk_=>Or.elim hk_ (fun hs_=>fun e_=>(((HO814.out).1 k_ e_.symm).2) hs_) (fun hn_=>(Kd.fresh' (Kd.R_lt (zR HO814.out)) k_ hn_))));have n2_:=Aside0.mk (hb);clear HO814;clear HB;clear HO_4;have HO814:=n0_;have HO817:=n1_;have HB:=n2_;clear n0_ n1_ n2_;(try clear hb);(try clear hkp);(try clear ho0);have p818:0≤(x6_2:Int):=of_decide_eq_true zA;have q818:x6_2<(l0.length:Int):=of_decide_eq_true zA;obtain⟨ad818,A818_0,c818_0,e818,hx818_0,hl818_0,hi818_0⟩:=yd3 HR0.out x6_2 p818 q818;cases e818;replace hx818_0:=(HB.out.cell (World.block_lt_of_cell? w _ hx818_0)).trans hx818_0;have HR818_0:=Aside0.mk hi818_0;have HC818_0:=Aside0.mk hl818_0;clear hi818_0 hl818_0;replace p818:=eq_true p818;replace q818:=eq_true q818)|(go_at_call 58;(with_reducible refine(yad.calls kj8 (IntKind.u64.wrap (wrap64 (((ya8 l0 x6_2).length:Int)-x7_8))) t819 _ A20.out).mono ?_);rintro e w29 ⟨v820,rfl,ho0,hb⟩;have n0_:=Aside0.mk (Kd.R_elder' (zR HO814.out) (Kd.R_base ho0) hb);have n1_:=Aside0.mk (Kd.R_elder' (zR HO817.out) (Kd.R_base ho0) hb);have n2_:=Aside0.mk (Kd.R_lower (Kd.R_new' (Kd.R_new' ho0 (Kd.R_lt (zR HO814.out))) (Kd.R_lt (zR HO817.out))) (yab zB));have n3_:=Aside0.mk (yai zB hb);clear HO814;clear HO817;clear HB;have HO814:=n0_;have HO817:=n1_;have HO821:=n2_;have HB:=n3_;clear n0_ n1_ n2_ n3_;(try clear hb);(try clear hb2);(try clear hk);(try clear hi);(try clear ho0);obtain⟨Ao30,co30,eo30⟩:=Kd.R_slice HO817.out;subst eo30;obtain⟨Ao31,co31,eo31⟩:=Kd.R_slice HO821.out;subst eo31)|(go_at_call 134;(with_reducible refine(yba.calls kj8 (fun k_=>some k_=(.slice Ao30 t815.length co30:Value).ownBlock) (.slice Ao30 t815.length co30) t815 _ _ t819 t822 w _ ?side1 ?side2 ?side3 ?side4 A21.out).mono ?_);(case side1=>exact zB);(case side2=>exact Kd.R_tight rfl HO817.out);(case side3=>exact Kd.C_kept_own (HO821.out) (fun k_ hk_ hs_=>(hk_.2) hs_));(case side4=>exact(Kd.R_reads' HO821.out).2.1);rintro e w32 ⟨v823,rfl,ho0,hb,hkp⟩;have n0_:=Aside0.mk (Kd.R_mono (ok':=fun k_=>some k_≠(.slice Ao31 t819.length co31:Value).ownBlock∧some k_≠(v823:Value).ownBlock) (Kd.R_keptB (HO814.out) hkp (fun k_ hk_ hs_=>(hk_.1) hs_)) (fun k_ hk_=>⟨hk_.1.2,fun e_=>Or.elim (ho0.1 k_ e_.symm) (fun hs_=>hk_.2.1 hs_) (fun hn_=>Nat.not_le.2 hk_.2.2 hn_)⟩));have n1_:=Aside0.mk (Kd.R_mono (ok':=fun k_=>some k_≠(.slice Ao27 t812.length co27:Value).ownBlock∧some k_≠(v823:Value).ownBlock) (Kd.R_keptB (HO821.out) hkp (fun k_ hk_ hs_=>(hk_.2) hs_)) (fun k_ hk_=>⟨hk_.1.1.2,fun e_=>Or.elim (ho0.1 k_ e_.symm) (fun hs_=>hk_.2.1 hs_) (fun hn_=>Nat.not_le.2 hk_.2.2 hn_)⟩));have n2_:=Aside0.mk (Kd.R_mono (ok':=fun k_=>some k_≠(.slice Ao27 t812.length co27:Value).ownBlock∧some k_≠(.slice Ao31 t819.length co31:Value).ownBlock) ho0 (fun k_ hk_=>⟨Or.elim hk_ (fun hs_=>fun e_=>(((HO814.out).1 k_ e_.symm).1) hs_) (fun hn_=>(Kd.fresh' (Kd.R_lt (zR HO814.out)) k_ hn_)),Or.elim hk_ (fun hs_=>fun e_=>(((HO821.out).1 k_ e_.symm).2) hs_) (fun hn_=>(Kd.fresh' (Kd.R_lt (zR HO821.out)) k_ hn_))⟩));have n3_:=Aside0.mk (hb);clear HO814;clear HO821;clear HB;clear HO817;have HO814:=n0_;have HO821:=n1_;have HO824:=n2_;have HB:=n3_;clear n0_ n1_ n2_ n3_;(try clear hb);(try clear hkp);(try clear ho0);have p825:0≤(x6_2:Int):=of_decide_eq_true zA;have q825:x6_2<(l0.length:Int):=of_decide_eq_true zA;obtain⟨ad825,A825_0,c825_0,e825,hx825_0,hl825_0,hi825_0⟩:=yd3 HR0.out x6_2 p825 q825;obtain rfl:ad818=ad825:=(by injection e825);replace hx825_0:=(HB.out.cell (World.block_lt_of_cell? w _ hx825_0)).trans hx825_0;have HR825_0:=Aside0.mk hi825_0;have HC825_0:=Aside0.mk hl825_0;clear hi825_0 hl825_0;replace p825:=eq_true p825;replace q825:=eq_true q825;obtain⟨i033,hi033,_,hsz33,_⟩:=info_parts yb6;obtain⟨A33,hcut33,hA33,hC33⟩:=ygy (P:=Tryz.prog) (Value.int .u8) 0 25 5 .i64 Tryz.underlying25 hi033 hsz33 A825_0 c825_0 (ya8 l0 x6_2) x7_8 (of_decide_eq_true zA) (of_decide_eq_true zA) HC825_0.out;have HR826:=Aside0.mk (Kd.C_of_reads (h1:=fun _=>rfl) (hA33 _ (Kd.reads_of_C HR825_0.out)));have HC826:=Aside0.mk hC33;clear hA33 hC33 hi033 hsz33;obtain⟨Ao34,co34,eo34⟩:=Kd.R_slice HO824.out;subst eo34)|(go_at_call 134;(try rw[show(ya8 l0 x6_2).length-(x7_8:Int).toNat=((ya8 l0 x6_2).drop (x7_8:Int).toNat).length from List.length_drop.symm]);(with_reducible refine(yba.calls kj8 (fun k_=>some k_=(.slice Ao34 t822.length co34:Value).ownBlock) (.slice Ao34 t822.length co34) t822 _ _ ((ya8 l0 x6_2).drop (x7_8:Int).toNat) t827 w _ ?side1 ?side2 ?side3 ?side4 A24.out).mono ?_);(case side1=>exact zB);(case side2=>exact Kd.R_tight rfl HO824.out);(case side3=>exact Kd.C_kept_came (Kd.heap_int .u8) HR826.out zB (fun k_ hs_=>(fun e_=>Kd.R_base HO824.out k_ e_.symm) hs_));(case side4=>exact HC826.out);rintro e w35 ⟨v828,rfl,ho0,hb,hkp⟩;have n0_:=Aside0.mk (Kd.R_mono (ok':=fun k_=>some k_≠(.slice Ao31 t819.length co31:Value).ownBlock∧some k_≠(v828:Value).ownBlock) (Kd.R_keptB (HO814.out) hkp (fun k_ hk_ hs_=>(hk_.2) hs_)) (fun k_ hk_=>⟨hk_.1.1,fun e_=>Or.elim (ho0.1 k_ e_.symm) (fun hs_=>hk_.2.1 hs_) (fun hn_=>Nat.not_le.2 hk_.2.2 hn_)⟩));have n1_:=Aside0.mk (Kd.R_mono (ok':=fun k_=>some k_≠(.slice Ao27 t812.length co27:Value).ownBlock∧some k_≠(v828:Value).ownBlock) (Kd.R_keptB (HO821.out) hkp (fun k_ hk_ hs_=>(hk_.2) hs_)) (fun k_ hk_=>⟨hk_.1.1,fun e_=>Or.elim (ho0.1 k_ e_.symm) (fun hs_=>hk_.2.1 hs_) (fun hn_=>Nat.not_le.2 hk_.2.2 hn_)⟩));have n2_:=Aside0.mk (Kd.R_mono (ok':=fun k_=>some k_≠(.slice Ao27 t812.length co27:Value).ownBlock∧some k_≠(.slice Ao31 t819.length co31:Value).ownBlock) ho0 (fun k_ hk_=>⟨Or.elim hk_ (fun hs_=>fun e_=>(((HO814.out).1 k_ e_.symm).2) hs_) (fun hn_=>(Kd.fresh' (Kd.R_lt (zR HO814.out)) k_ hn_)),Or.elim hk_ (fun hs_=>fun e_=>(((HO821.out).1 k_ e_.symm).2) hs_) (fun hn_=>(Kd.fresh' (Kd.R_lt (zR HO821.out)) k_ hn_))⟩));have n3_:=Aside0.mk (hb);clear HO814;clear HO821;clear HB;clear HO824;have HO814:=n0_;have HO821:=n1_;have HO829:=n2_;have HB:=n3_;clear n0_ n1_ n2_ n3_;(try clear hb);(try clear hkp);(try clear ho0)))
              repeat (go_quiet (first|(go_at_call 58;(with_reducible refine(yad.calls kj8 (IntKind.u64.wrap (x7_8)) t812 _ A16.out).mono ?_);rintro e w25 ⟨v813,rfl,ho0,hb⟩;have n0_:=Aside0.mk (Kd.R_elder' (zR HO_4.out) (Kd.R_base ho0) hb);have n1_:=Aside0.mk (Kd.R_lower (Kd.R_new' ho0 (Kd.R_lt (zR HO_4.out))) (yab zB));have n2_:=Aside0.mk (yai zB hb);clear HO_4;clear HB;have HO_4:=n0_;have HO814:=n1_;have HB:=n2_;clear n0_ n1_ n2_;(try clear hb);(try clear hb2);(try clear hk);(try clear hi);(try clear ho0);obtain⟨Ao26,co26,eo26⟩:=Kd.R_slice HO_4.out;subst eo26;obtain⟨Ao27,co27,eo27⟩:=Kd.R_slice HO814.out;subst eo27)|(go_at_call 134;(with_reducible refine(yba.calls kj8 (fun k_=>some k_=(.slice Ao26 x4_2.length co26:Value).ownBlock) (.slice Ao26 x4_2.length co26) x4_2 _ _ t812 t815 w _ ?side1 ?side2 ?side3 ?side4 A17.out).mono ?_);(case side1=>exact zB);(case side2=>exact Kd.R_tight rfl HO_4.out);(case side3=>exact Kd.C_kept_own (HO814.out) (fun k_ hk_ hs_=>(hk_.2) hs_));(case side4=>exact(Kd.R_reads' HO814.out).2.1);rintro e w28 ⟨v816,rfl,ho0,hb,hkp⟩;have n0_:=Aside0.mk (Kd.R_mono (ok':=fun k_=>some k_≠(v816:Value).ownBlock) (Kd.R_keptB (HO814.out) hkp (fun k_ hk_ hs_=>(hk_.2) hs_)) (fun k_ hk_=>fun e_=>Or.elim (ho0.1 k_ e_.symm) (fun hs_=>hk_.2.1 hs_) (fun hn_=>Nat.not_le.2 hk_.2.2 hn_)));have n1_:=Aside0.mk (Kd.R_mono (ok':=fun k_=>some k_≠(.slice Ao27 t812.length co27:Value).ownBlock) ho0 (fun k_ hk_=>Or.elim hk_ (fun hs_=>fun e_=>(((HO814.out).1 k_ e_.symm).2) hs_) (fun hn_=>(Kd.fresh' (Kd.R_lt (zR HO814.out)) k_ hn_))));have n2_:=Aside0.mk (hb);clear HO814;clear HB;clear HO_4;have HO814:=n0_;have HO817:=n1_;have HB:=n2_;clear n0_ n1_ n2_;(try clear hb);(try clear hkp);(try clear ho0);have p818:0≤(x6_2:Int):=of_decide_eq_true zA;have q818:x6_2<(l0.length:Int):=of_decide_eq_true zA;obtain⟨ad818,A818_0,c818_0,e818,hx818_0,hl818_0,hi818_0⟩:=yd3 HR0.out x6_2 p818 q818;cases e818;replace hx818_0:=(HB.out.cell (World.block_lt_of_cell? w _ hx818_0)).trans hx818_0;have HR818_0:=Aside0.mk hi818_0;have HC818_0:=Aside0.mk hl818_0;clear hi818_0 hl818_0;replace p818:=eq_true p818;replace q818:=eq_true q818)|(go_at_call 58;(with_reducible refine(yad.calls kj8 (IntKind.u64.wrap (wrap64 (((ya8 l0 x6_2).length:Int)-x7_8))) t819 _ A20.out).mono ?_);rintro e w29 ⟨v820,rfl,ho0,hb⟩;have n0_:=Aside0.mk (Kd.R_elder' (zR HO814.out) (Kd.R_base ho0) hb);have n1_:=Aside0.mk (Kd.R_elder' (zR HO817.out) (Kd.R_base ho0) hb);have n2_:=Aside0.mk (Kd.R_lower (Kd.R_new' (Kd.R_new' ho0 (Kd.R_lt (zR HO814.out))) (Kd.R_lt (zR HO817.out))) (yab zB));have n3_:=Aside0.mk (yai zB hb);clear HO814;clear HO817;clear HB;have HO814:=n0_;have HO817:=n1_;have HO821:=n2_;have HB:=n3_;clear n0_ n1_ n2_ n3_;(try clear hb);(try clear hb2);(try clear hk);(try clear hi);(try clear ho0);obtain⟨Ao30,co30,eo30⟩:=Kd.R_slice HO817.out;subst eo30;obtain⟨Ao31,co31,eo31⟩:=Kd.R_slice HO821.out;subst eo31)|(go_at_call 134;(with_reducible refine(yba.calls kj8 (fun k_=>some k_=(.slice Ao30 t815.length co30:Value).ownBlock) (.slice Ao30 t815.length co30) t815 _ _ t819 t822 w _ ?side1 ?side2 ?side3 ?side4 A21.out).mono ?_);(case side1=>exact zB);(case side2=>exact Kd.R_tight rfl HO817.out);(case side3=>exact Kd.C_kept_own (HO821.out) (fun k_ hk_ hs_=>(hk_.2) hs_));(case side4=>exact(Kd.R_reads' HO821.out).2.1);rintro e w32 ⟨v823,rfl,ho0,hb,hkp⟩;have n0_:=Aside0.mk (Kd.R_mono (ok':=fun k_=>some k_≠(.slice Ao31 t819.length co31:Value).ownBlock∧some k_≠(v823:Value).ownBlock) (Kd.R_keptB (HO814.out) hkp (fun k_ hk_ hs_=>(hk_.1) hs_)) (fun k_ hk_=>⟨hk_.1.2,fun e_=>Or.elim (ho0.1 k_ e_.symm) (fun hs_=>hk_.2.1 hs_) (fun hn_=>Nat.not_le.2 hk_.2.2 hn_)⟩));have n1_:=Aside0.mk (Kd.R_mono (ok':=fun k_=>some k_≠(.slice Ao27 t812.length co27:Value).ownBlock∧some k_≠(v823:Value).ownBlock) (Kd.R_keptB (HO821.out) hkp (fun k_ hk_ hs_=>(hk_.2) hs_)) (fun k_ hk_=>⟨hk_.1.1.2,fun e_=>Or.elim (ho0.1 k_ e_.symm) (fun hs_=>hk_.2.1 hs_) (fun hn_=>Nat.not_le.2 hk_.2.2 hn_)⟩));have n2_:=Aside0.mk (Kd.R_mono (ok':=fun k_=>some k_≠(.slice Ao27 t812.length co27:Value).ownBlock∧some k_≠(.slice Ao31 t819.length co31:Value).ownBlock) ho0 (fun k_ hk_=>⟨Or.elim hk_ (fun hs_=>fun e_=>(((HO814.out).1 k_ e_.symm).1) hs_) (fun hn_=>(Kd.fresh' (Kd.R_lt (zR HO814.out)) k_ hn_)),Or.elim hk_ (fun hs_=>fun e_=>(((HO821.out).1 k_ e_.symm).2) hs_) (fun hn_=>(Kd.fresh' (Kd.R_lt (zR HO821.out)) k_ hn_))⟩));have n3_:=Aside0.mk (hb);clear HO814;clear HO821;clear HB;clear HO817;have HO814:=n0_;have HO821:=n1_;have HO824:=n2_;have HB:=n3_;clear n0_ n1_ n2_ n3_;(try clear hb);(try clear hkp);(try clear ho0);have p825:0≤(x6_2:Int):=of_decide_eq_true zA;have q825:x6_2<(l0.length:Int):=of_decide_eq_true zA;obtain⟨ad825,A825_0,c825_0,e825,hx825_0,hl825_0,hi825_0⟩:=yd3 HR0.out x6_2 p825 q825;obtain rfl:ad818=ad825:=(by injection e825);replace hx825_0:=(HB.out.cell (World.block_lt_of_cell? w _ hx825_0)).trans hx825_0;have HR825_0:=Aside0.mk hi825_0;have HC825_0:=Aside0.mk hl825_0;clear hi825_0 hl825_0;replace p825:=eq_true p825;replace q825:=eq_true q825;obtain⟨i033,hi033,_,hsz33,_⟩:=info_parts yb6;obtain⟨A33,hcut33,hA33,hC33⟩:=ygy (P:=Tryz.prog) (Value.int .u8) 0 25 5 .i64 Tryz.underlying25 hi033 hsz33 A825_0 c825_0 (ya8 l0 x6_2) x7_8 (of_decide_eq_true zA) (of_decide_eq_true zA) HC825_0.out;have HR826:=Aside0.mk (Kd.C_of_reads (h1:=fun _=>rfl) (hA33 _ (Kd.reads_of_C HR825_0.out)));have HC826:=Aside0.mk hC33;clear hA33 hC33 hi033 hsz33;obtain⟨Ao34,co34,eo34⟩:=Kd.R_slice HO824.out;subst eo34)|(go_at_call 134;(try rw[show(ya8 l0 x6_2).length-(x7_8:Int).toNat=((ya8 l0 x6_2).drop (x7_8:Int).toNat).length from List.length_drop.symm]);(with_reducible refine(yba.calls kj8 (fun k_=>some k_=(.slice Ao34 t822.length co34:Value).ownBlock) (.slice Ao34 t822.length co34) t822 _ _ ((ya8 l0 x6_2).drop (x7_8:Int).toNat) t827 w _ ?side1 ?side2 ?side3 ?side4 A24.out).mono ?_);(case side1=>exact zB);(case side2=>exact Kd.R_tight rfl HO824.out);(case side3=>exact Kd.C_kept_came (Kd.heap_int .u8) HR826.out zB (fun k_ hs_=>(fun e_=>Kd.R_base HO824.out k_ e_.symm) hs_));(case side4=>exact HC826.out);rintro e w35 ⟨v828,rfl,ho0,hb,hkp⟩;have n0_:=Aside0.mk (Kd.R_mono (ok':=fun k_=>some k_≠(.slice Ao31 t819.length co31:Value).ownBlock∧some k_≠(v828:Value).ownBlock) (Kd.R_keptB (HO814.out) hkp (fun k_ hk_ hs_=>(hk_.2) hs_)) (fun k_ hk_=>⟨hk_.1.1,fun e_=>Or.elim (ho0.1 k_ e_.symm) (fun hs_=>hk_.2.1 hs_) (fun hn_=>Nat.not_le.2 hk_.2.2 hn_)⟩));have n1_:=Aside0.mk (Kd.R_mono (ok':=fun k_=>some k_≠(.slice Ao27 t812.length co27:Value).ownBlock∧some k_≠(v828:Value).ownBlock) (Kd.R_keptB (HO821.out) hkp (fun k_ hk_ hs_=>(hk_.2) hs_)) (fun k_ hk_=>⟨hk_.1.1,fun e_=>Or.elim (ho0.1 k_ e_.symm) (fun hs_=>hk_.2.1 hs_) (fun hn_=>Nat.not_le.2 hk_.2.2 hn_)⟩));have n2_:=Aside0.mk (Kd.R_mono (ok':=fun k_=>some k_≠(.slice Ao27 t812.length co27:Value).ownBlock∧some k_≠(.slice Ao31 t819.length co31:Value).ownBlock) ho0 (fun k_ hk_=>⟨Or.elim hk_ (fun hs_=>fun e_=>(((HO814.out).1 k_ e_.symm).2) hs_) (fun hn_=>(Kd.fresh' (Kd.R_lt (zR HO814.out)) k_ hn_)),Or.elim hk_ (fun hs_=>fun e_=>(((HO821.out).1 k_ e_.symm).2) hs_) (fun hn_=>(Kd.fresh' (Kd.R_lt (zR HO821.out)) k_ hn_))⟩));have n3_:=Aside0.mk (hb);clear HO814;clear HO821;clear HB;clear HO824;have HO814:=n0_;have HO821:=n1_;have HO829:=n2_;have HB:=n3_;clear n0_ n1_ n2_ n3_;(try clear hb);(try clear hkp);(try clear ho0)));try go_wp2_with (first|(go_at_call 58;(with_reducible refine(yad.calls kj8 (IntKind.u64.wrap (x7_8)) t812 _ A16.out).mono ?_);rintro e w25 ⟨v813,rfl,ho0,hb⟩;have n0_:=Aside0.mk (Kd.R_elder' (zR HO_4.out) (Kd.R_base ho0) hb);have n1_:=Aside0.mk (Kd.R_lower (Kd.R_new' ho0 (Kd.R_lt (zR HO_4.out))) (yab zB));have n2_:=Aside0.mk (yai zB hb);clear HO_4;clear HB;have HO_4:=n0_;have HO814:=n1_;have HB:=n2_;clear n0_ n1_ n2_;(try clear hb);(try clear hb2);(try clear hk);(try clear hi);(try clear ho0);obtain⟨Ao26,co26,eo26⟩:=Kd.R_slice HO_4.out;subst eo26;obtain⟨Ao27,co27,eo27⟩:=Kd.R_slice HO814.out;subst eo27)|(go_at_call 134;(with_reducible refine(yba.calls kj8 (fun k_=>some k_=(.slice Ao26 x4_2.length co26:Value).ownBlock) (.slice Ao26 x4_2.length co26) x4_2 _ _ t812 t815 w _ ?side1 ?side2 ?side3 ?side4 A17.out).mono ?_);(case side1=>exact zB);(case side2=>exact Kd.R_tight rfl HO_4.out);(case side3=>exact Kd.C_kept_own (HO814.out) (fun k_ hk_ hs_=>(hk_.2) hs_));(case side4=>exact(Kd.R_reads' HO814.out).2.1);rintro e w28 ⟨v816,rfl,ho0,hb,hkp⟩;have n0_:=Aside0.mk (Kd.R_mono (ok':=fun k_=>some k_≠(v816:Value).ownBlock) (Kd.R_keptB (HO814.out) hkp (fun k_ hk_ hs_=>(hk_.2) hs_)) (fun k_ hk_=>fun e_=>Or.elim (ho0.1 k_ e_.symm) (fun hs_=>hk_.2.1 hs_) (fun hn_=>Nat.not_le.2 hk_.2.2 hn_)));have n1_:=Aside0.mk (Kd.R_mono (ok':=fun k_=>some k_≠(.slice Ao27 t812.length co27:Value).ownBlock) ho0 (fun k_ hk_=>Or.elim hk_ (fun hs_=>fun e_=>(((HO814.out).1 k_ e_.symm).2) hs_) (fun hn_=>(Kd.fresh' (Kd.R_lt (zR HO814.out)) k_ hn_))));have n2_:=Aside0.mk (hb);clear HO814;clear HB;clear HO_4;have HO814:=n0_;have HO817:=n1_;have HB:=n2_;clear n0_ n1_ n2_;(try clear hb);(try clear hkp);(try clear ho0);have p818:0≤(x6_2:Int):=of_decide_eq_true zA;have q818:x6_2<(l0.length:Int):=of_decide_eq_true zA;obtain⟨ad818,A818_0,c818_0,e818,hx818_0,hl818_0,hi818_0⟩:=yd3 HR0.out x6_2 p818 q818;cases e818;replace hx818_0:=(HB.out.cell (World.block_lt_of_cell? w _ hx818_0)).trans hx818_0;have HR818_0:=Aside0.mk hi818_0;have HC818_0:=Aside0.mk hl818_0;clear hi818_0 hl818_0;replace p818:=eq_true p818;replace q818:=eq_true q818)|(go_at_call 58;(with_reducible refine(yad.calls kj8 (IntKind.u64.wrap (wrap64 (((ya8 l0 x6_2).length:Int)-x7_8))) t819 _ A20.out).mono ?_);rintro e w29 ⟨v820,rfl,ho0,hb⟩;have n0_:=Aside0.mk (Kd.R_elder' (zR HO814.out) (Kd.R_base ho0) hb);have n1_:=Aside0.mk (Kd.R_elder' (zR HO817.out) (Kd.R_base ho0) hb);have n2_:=Aside0.mk (Kd.R_lower (Kd.R_new' (Kd.R_new' ho0 (Kd.R_lt (zR HO814.out))) (Kd.R_lt (zR HO817.out))) (yab zB));have n3_:=Aside0.mk (yai zB hb);clear HO814;clear HO817;clear HB;have HO814:=n0_;have HO817:=n1_;have HO821:=n2_;have HB:=n3_;clear n0_ n1_ n2_ n3_;(try clear hb);(try clear hb2);(try clear hk);(try clear hi);(try clear ho0);obtain⟨Ao30,co30,eo30⟩:=Kd.R_slice HO817.out;subst eo30;obtain⟨Ao31,co31,eo31⟩:=Kd.R_slice HO821.out;subst eo31)|(go_at_call 134;(with_reducible refine(yba.calls kj8 (fun k_=>some k_=(.slice Ao30 t815.length co30:Value).ownBlock) (.slice Ao30 t815.length co30) t815 _ _ t819 t822 w _ ?side1 ?side2 ?side3 ?side4 A21.out).mono ?_);(case side1=>exact zB);(case side2=>exact Kd.R_tight rfl HO817.out);(case side3=>exact Kd.C_kept_own (HO821.out) (fun k_ hk_ hs_=>(hk_.2) hs_));(case side4=>exact(Kd.R_reads' HO821.out).2.1);rintro e w32 ⟨v823,rfl,ho0,hb,hkp⟩;have n0_:=Aside0.mk (Kd.R_mono (ok':=fun k_=>some k_≠(.slice Ao31 t819.length co31:Value).ownBlock∧some k_≠(v823:Value).ownBlock) (Kd.R_keptB (HO814.out) hkp (fun k_ hk_ hs_=>(hk_.1) hs_)) (fun k_ hk_=>⟨hk_.1.2,fun e_=>Or.elim (ho0.1 k_ e_.symm) (fun hs_=>hk_.2.1 hs_) (fun hn_=>Nat.not_le.2 hk_.2.2 hn_)⟩));have n1_:=Aside0.mk (Kd.R_mono (ok':=fun k_=>some k_≠(.slice Ao27 t812.length co27:Value).ownBlock∧some k_≠(v823:Value).ownBlock) (Kd.R_keptB (HO821.out) hkp (fun k_ hk_ hs_=>(hk_.2) hs_)) (fun k_ hk_=>⟨hk_.1.1.2,fun e_=>Or.elim (ho0.1 k_ e_.symm) (fun hs_=>hk_.2.1 hs_) (fun hn_=>Nat.not_le.2 hk_.2.2 hn_)⟩));have n2_:=Aside0.mk (Kd.R_mono (ok':=fun k_=>some k_≠(.slice Ao27 t812.length co27:Value).ownBlock∧some k_≠(.slice Ao31 t819.length co31:Value).ownBlock) ho0 (fun k_ hk_=>⟨Or.elim hk_ (fun hs_=>fun e_=>(((HO814.out).1 k_ e_.symm).1) hs_) (fun hn_=>(Kd.fresh' (Kd.R_lt (zR HO814.out)) k_ hn_)),Or.elim hk_ (fun hs_=>fun e_=>(((HO821.out).1 k_ e_.symm).2) hs_) (fun hn_=>(Kd.fresh' (Kd.R_lt (zR HO821.out)) k_ hn_))⟩));have n3_:=Aside0.mk (hb);clear HO814;clear HO821;clear HB;clear HO817;have HO814:=n0_;have HO821:=n1_;have HO824:=n2_;have HB:=n3_;clear n0_ n1_ n2_ n3_;(try clear hb);(try clear hkp);(try clear ho0);have p825:0≤(x6_2:Int):=of_decide_eq_true zA;have q825:x6_2<(l0.length:Int):=of_decide_eq_true zA;obtain⟨ad825,A825_0,c825_0,e825,hx825_0,hl825_0,hi825_0⟩:=yd3 HR0.out x6_2 p825 q825;obtain rfl:ad818=ad825:=(by injection e825);replace hx825_0:=(HB.out.cell (World.block_lt_of_cell? w _ hx825_0)).trans hx825_0;have HR825_0:=Aside0.mk hi825_0;have HC825_0:=Aside0.mk hl825_0;clear hi825_0 hl825_0;replace p825:=eq_true p825;replace q825:=eq_true q825;obtain⟨i033,hi033,_,hsz33,_⟩:=info_parts yb6;obtain⟨A33,hcut33,hA33,hC33⟩:=ygy (P:=Tryz.prog) (Value.int .u8) 0 25 5 .i64 Tryz.underlying25 hi033 hsz33 A825_0 c825_0 (ya8 l0 x6_2) x7_8 (of_decide_eq_true zA) (of_decide_eq_true zA) HC825_0.out;have HR826:=Aside0.mk (Kd.C_of_reads (h1:=fun _=>rfl) (hA33 _ (Kd.reads_of_C HR825_0.out)));have HC826:=Aside0.mk hC33;clear hA33 hC33 hi033 hsz33;obtain⟨Ao34,co34,eo34⟩:=Kd.R_slice HO824.out;subst eo34)|(go_at_call 134;(try rw[show(ya8 l0 x6_2).length-(x7_8:Int).toNat=((ya8 l0 x6_2).drop (x7_8:Int).toNat).length from List.length_drop.symm]);(with_reducible refine(yba.calls kj8 (fun k_=>some k_=(.slice Ao34 t822.length co34:Value).ownBlock) (.slice Ao34 t822.length co34) t822 _ _ ((ya8 l0 x6_2).drop (x7_8:Int).toNat) t827 w _ ?side1 ?side2 ?side3 ?side4 A24.out).mono ?_);(case side1=>exact zB);(case side2=>exact Kd.R_tight rfl HO824.out);(case side3=>exact Kd.C_kept_came (Kd.heap_int .u8) HR826.out zB (fun k_ hs_=>(fun e_=>Kd.R_base HO824.out k_ e_.symm) hs_));(case side4=>exact HC826.out);rintro e w35 ⟨v828,rfl,ho0,hb,hkp⟩;have n0_:=Aside0.mk (Kd.R_mono (ok':=fun k_=>some k_≠(.slice Ao31 t819.length co31:Value).ownBlock∧some k_≠(v828:Value).ownBlock) (Kd.R_keptB (HO814.out) hkp (fun k_ hk_ hs_=>(hk_.2) hs_)) (fun k_ hk_=>⟨hk_.1.1,fun e_=>Or.elim (ho0.1 k_ e_.symm) (fun hs_=>hk_.2.1 hs_) (fun hn_=>Nat.not_le.2 hk_.2.2 hn_)⟩));have n1_:=Aside0.mk (Kd.R_mono (ok':=fun k_=>some k_≠(.slice Ao27 t812.length co27:Value).ownBlock∧some k_≠(v828:Value).ownBlock) (Kd.R_keptB (HO821.out) hkp (fun k_ hk_ hs_=>(hk_.2) hs_)) (fun k_ hk_=>⟨hk_.1.1,fun e_=>Or.elim (ho0.1 k_ e_.symm) (fun hs_=>hk_.2.1 hs_) (fun hn_=>Nat.not_le.2 hk_.2.2 hn_)⟩));have n2_:=Aside0.mk (Kd.R_mono (ok':=fun k_=>some k_≠(.slice Ao27 t812.length co27:Value).ownBlock∧some k_≠(.slice Ao31 t819.length co31:Value).ownBlock) ho0 (fun k_ hk_=>⟨Or.elim hk_ (fun hs_=>fun e_=>(((HO814.out).1 k_ e_.symm).2) hs_) (fun hn_=>(Kd.fresh' (Kd.R_lt (zR HO814.out)) k_ hn_)),Or.elim hk_ (fun hs_=>fun e_=>(((HO821.out).1 k_ e_.symm).2) hs_) (fun hn_=>(Kd.fresh' (Kd.R_lt (zR HO821.out)) k_ hn_))⟩));have n3_:=Aside0.mk (hb);clear HO814;clear HO821;clear HB;clear HO824;have HO814:=n0_;have HO821:=n1_;have HO829:=n2_;have HB:=n3_;clear n0_ n1_ n2_ n3_;(try clear hb);(try clear hkp);(try clear ho0))))
              go_roundg kj8
              case measure=>have:=HK1.out;have:=HK2.out;have:=HJ8.out;omega
              case rel=>exact⟨(t827),(wrap64 (x6_2+1)),zF,H',⟨by have:=HK1.out;have:=HK2.out;have:=HJ8.out;omega⟩,⟨by (with_reducible repeat (first|apply Kd.R_alloc|apply Kd.R_drewN|apply Kd.R_drew));exact Kd.R_mono HO829.out (fun _ hk=>trivial)⟩,⟨zB⟩⟩
             ·rw[if_neg c23] at H
              exact absurd H (by simp)
            ·rw[if_neg c22] at H
             exact absurd H (by simp)
           ·rw[if_neg c19] at H
            exact absurd H (by simp)
          ·rw[if_neg c18] at H
           exact absurd H (by simp)
       ·rw[if_neg c8] at H
        have c8b0:=decide_eq_false c8
        clear c8
        simp only[Option.some.injEq,Prod.mk.injEq] at H
        obtain⟨rfl,rfl⟩:=H
        go_wp2
        repeat (go_quiet (fail);try go_wp2)
        go_ret2
        exact⟨_,zG,zR HO_4.out,zB⟩
end Go.Proofs.YteeikgjjgfdjgaaGreat.PK
end
section
namespace Go.Proofs.YteeikgjjgfdjgaaGreat.PK
open Go.RowKit Go.Proofs.YteeikgjjgfdjgaaGreatW.PrintWords Go.Proofs.YteeikgjjgfdjgaaGreatW.PrintLast Go.Proofs.YteeikgjjgfdjgaaGreatW.PrintMore
attribute [local go_sem] ycl ycm yc0 yc2 ych yci ycr ycs
set_option linter.unusedVariables false
set_option linter.unusedSimpArgs false
def yfh.l0:Nat→Int→Int→List (S53)→List Int→List (List Int)→List Int→Int→Option (List Int)
 | 0,_,_,_,_,_,_,_=>none
 | k+1,x0,x1,x2,x7,x8,x9,x10=>if x10<(x2.length:Int) then (if 0≤x10 then (if ((yag x2 x10).f0=true) then (yfh.l0 k x0 x1 x2 x7 x8 x9 (wrap64 (x10+1))) else (if x7.length<17592186044416 then ((some (x7++[(yag x2 x10).f1]:List Int)).bind fun y841=>(if x8.length<5864062014805 then ((some (x8++[(yag x2 x10).f2]:List (List Int))).bind fun y845=>(if x0≤6 then ((ydj.f ((yag x2 x10).f1)).bind fun t849=>((yad.f k t849).bind fun t850=>((ybt.f k x9 t850).bind fun t853=>(yfh.l0 k x0 x1 x2 y841 y845 t853 (wrap64 (x10+1)))))) else ((yad.f k (IntKind.u64.wrap ((((yag x2 x10).f2).length:Int)))).bind fun t857=>((ybt.f k x9 t857).bind fun t860=>((ybt.f k t860 ((yag x2 x10).f2)).bind fun t864=>(yfh.l0 k x0 x1 x2 y841 y845 t864 (wrap64 (x10+1)))))))) else (none))) else (none))) else (none)) else (if x1=2 then ((yb0.f k x7).bind fun bt867=>(some bt867.1)) else (if x1=3 then ((ybm.f k x7).bind fun bt871=>(some bt871.1)) else (if x1=4 then ((ya4.f k x8).bind fun bt875=>(some bt875.1)) else (if x1=5 then ((yas.f k x8).bind fun bt879=>(some bt879.1)) else (some x9)))))
def yfh.f (k:Nat) (a0:Int) (a1:Int) (l2:List (S53)):Option (List Int):=yfh.l0 k a0 a1 l2 (([]:List Int)) (([]:List (List Int))) (([]:List Int)) 0
end Go.Proofs.YteeikgjjgfdjgaaGreat.PK
end
section
namespace Go.Proofs.YteeikgjjgfdjgaaGreat.PK
open Go.RowKit Go.Proofs.YteeikgjjgfdjgaaGreatW.PrintWords Go.Proofs.YteeikgjjgfdjgaaGreatW.PrintLast Go.Proofs.YteeikgjjgfdjgaaGreatW.PrintMore
attribute [local go_sem] ycl ycm yc0 yc2 ych yci ycr ycs
set_option linter.unusedVariables false
set_option linter.unusedSimpArgs false
mutual
def yeb.l0:Nat→Int→Int→List (S53)→List Int→List Int→Int→Int→Option (List Int×Int)
 | 0,_,_,_,_,_,_,_=>none
 | k+1,x0,x1,x2,x8,x9,x10,x11=>if x11<(x2.length:Int) then (if 0≤x11 then (if (yag x2 x11).f0=true then (if x9.length<17592186044416 then (yeb.l0 k x0 x1 x2 x8 (x9++[1]) 1 (wrap64 (x11+1))) else (none)) else (if x9.length<17592186044416 then (yeb.l0 k x0 x1 x2 x8 (x9++[0]) x10 (wrap64 (x11+1))) else (none))) else (none)) else (if x8.length<140737488355328 then ((some (x8++[x10]:List Int)).bind fun y902=>(if x10=1 then ((yae.f k 1 x9).bind fun bt905=>((ybt.f k y902 bt905.1).bind fun t909=>(yeb.j1 k x0 x1 x2 t909))) else (yeb.j1 k x0 x1 x2 y902))) else (none))
def yeb.j1:Nat→Int→Int→List (S53)→List Int→Option (List Int×Int)
 | 0,_,_,_,_=>none
 | k+1,x0,x1,x2,x8=>(yfh.f k x0 x1 x2).bind fun t912=>((ybt.f k x8 t912).bind fun t915=>(if (wrap64 ((t915.length:Int)+4)) > 65000 then (some (([]:List Int),4)) else ((yem.f k t915).bind fun t918=>(some (t918,0)))))
end
def yeb.f (k:Nat) (a0:Int) (a1:Int) (l2:List (S53)):Option (List Int×Int):=(yad.f k (IntKind.u64.wrap ((l2.length:Int)))).bind fun t886=>((ybt.f k (([(a1)%256]:List Int)) t886).bind fun t889=>(yeb.l0 k a0 a1 l2 t889 (([]:List Int)) 0 0))
end Go.Proofs.YteeikgjjgfdjgaaGreat.PK
end
section
namespace Go.Proofs.YteeikgjjgfdjgaaGreat.PK
open Go.RowKit Go.Proofs.YteeikgjjgfdjgaaGreatW.PrintWords Go.Proofs.YteeikgjjgfdjgaaGreatW.PrintLast Go.Proofs.YteeikgjjgfdjgaaGreatW.PrintMore
attribute [local go_sem] ycl ycm yc0 yc2 ych yci ycr ycs
set_option linter.unusedVariables false
set_option linter.unusedSimpArgs false
mutual
def stoaref12_Best.j0:Nat→Int→List (S53)→Bool→Option (Int×List Int×Int)
 | 0,_,_,_=>none
 | k+1,x0,x1,x18=>if x18=true then (some (0,([]:List Int),1)) else ((ybw.f k x0 x1).bind fun t927=>(if t927=0 then (stoaref12_Best.l0 k x0 x1 0 (([]:List Int)) 1) else (some (0,([]:List Int),t927))))
def stoaref12_Best.l0:Nat→Int→List (S53)→Int→List Int→Int→Option (Int×List Int×Int)
 | 0,_,_,_,_,_=>none
 | k+1,x0,x1,x8,x9,x10=>if x10≤5 then ((yen.f x0 x10).bind fun t931=>(if t931=true then ((yeb.f k x0 x10 x1).bind fun bt932=>(if bt932.2=0 then (if x8=0 then (stoaref12_Best.l0 k x0 x1 x10 bt932.1 (wrap64 (x10+1))) else (if (bt932.1.length:Int)<(x9.length:Int) then (stoaref12_Best.l0 k x0 x1 x10 bt932.1 (wrap64 (x10+1))) else (stoaref12_Best.l0 k x0 x1 x8 x9 (wrap64 (x10+1))))) else (stoaref12_Best.l0 k x0 x1 x8 x9 (wrap64 (x10+1))))) else (stoaref12_Best.l0 k x0 x1 x8 x9 (wrap64 (x10+1))))) else (if x8=0 then (some (0,([]:List Int),4)) else (some (x8,x9,0)))
end
mutual
def stoaref03_Turn.j0:Nat→List Int→Int→Int→List Int→Bool→Option (List Int)
 | 0,_,_,_,_,_=>none
 | k+1,x0,x1,x2,x7,x22=>if x22=true then (some x7) else (stoaref03_Turn.l0 k x0 x7 (IntKind.u64.wrap (x2)) x1)
def stoaref03_Turn.l0:Nat→List Int→List Int→Int→Int→Option (List Int)
 | 0,_,_,_,_=>none
 | k+1,x0,x7,x8,x9=>if x8 > 0 then (if x9≥(wrap64 (8*(x0.length:Int))) then ((ya0.f k x0).bind fun t919=>(some t919)) else (if (Int.tmod x8 2)=1 then (stoaref03_Turn.l1 k x0 x7 x8 x9 1 0) else (stoaref03_Turn.l0 k x0 x7 (IntKind.u64.wrap (Int.tdiv x8 2)) (wrap64 (x9+1))))) else (some x7)
def stoaref03_Turn.l1:Nat→List Int→List Int→Int→Int→Int→Int→Option (List Int)
 | 0,_,_,_,_,_,_=>none
 | k+1,x0,x7,x8,x9,x10,x11=>if x11<(Int.tmod x9 8) then (stoaref03_Turn.l1 k x0 x7 x8 x9 ((x10*2)%256) (wrap64 (x11+1))) else (if 0≤(wrap64 (Int.tdiv x9 8)) then (if (wrap64 (Int.tdiv x9 8))<(x7.length:Int) then (stoaref03_Turn.l0 k x0 (x7.set ((wrap64 (Int.tdiv x9 8)):Int).toNat (Go.bits .xor .u8 (rd x7 (wrap64 (Int.tdiv x9 8))) x10)) (IntKind.u64.wrap (Int.tdiv x8 2)) (wrap64 (x9+1))) else (none)) else (none))
end
end Go.Proofs.YteeikgjjgfdjgaaGreat.PK
end
