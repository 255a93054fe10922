/-
  Parts of the proof: E9, E12, E13.
-/
import Derived.Test.YteeikgjjgfdjgaaGreatV7
import Derived.Test.YteeikgjjgfdjgaaGreatV6
set_option maxHeartbeats 8000000
set_option maxRecDepth 100000
section
namespace Go.Proofs.YteeikgjjgfdjgaaGreat.PK
open Go.RowKit YteeikgjjgfdjgaaGreatW.PrintWords YteeikgjjgfdjgaaGreatW.PrintLast YteeikgjjgfdjgaaGreatW.PrintMore
attribute [local go_sem] yce ycf ycu ycv yb8 yb7 ycm yco
set_option linter.unusedVariables false
set_option linter.unusedSimpArgs false
def yba.j0:Nat→Int→Bool→Bool→Bool→Int→List Int→Option (Int)
 | 0,_,_,_,_,_,_=>none
 | k+1,x0,x1,x12,x611000,x611001,x611002=>if x12=true then (some 1) else (if x611000=true then (if x1=true then (if x611001=0 then (if (x611002.length:Int) > 0 then (some 50) else (some 0)) else (some 50)) else (some 51)) else (if x0≤6 then (if (x611002.length:Int) > 0 then (some 50) else ((yca.f x0).bind fun t611=>(if x611001<t611 then (some 52) else ((ycb.f x0).bind fun t612=>(if x611001 > t612 then (some 52) else (some 0)))))) else (if x611001=0 then (if (x611002.length:Int) > 200 then (some 4) else (if x0=7 then ((ybf.f k x611002).bind fun t613=>(if t613=true then (some 5) else (some 0))) else (some 0))) else (some 50))))
def yba.f (k:Nat) (a0:Int) (a1:Bool) (a2_0:Bool) (a2_1:Int) (l2_2:List Int):Option (Int):=if a0<1 then (yba.j0 k a0 a1 true a2_0 a2_1 l2_2) else (yba.j0 k a0 a1 (decide (a0 > 8)) a2_0 a2_1 l2_2)
theorem yba.calls (k:Nat) (a0:Int) (a1:Bool) (a2_0:Bool) (a2_1:Int) (A2_2:Option Addr) (c2_2:Nat) (l2_2:List Int) (r:Int) (w:World) (hr2_2:Kd.C (Kd.int .u8) w A2_2 l2_2.length l2_2) (hc2_2:l2_2.length≤c2_2) (h:yba.f k a0 a1 a2_0 a2_1 l2_2=some r) :
  Calls Tryz.prog 56 #[.int .i64 a0,.bool a1,.agg #[.bool a2_0,.int .i64 a2_1,.slice A2_2 l2_2.length c2_2]] w fun e w'=>e=.returned (.int .i64 r)∧Below w.heap.size w w':=by
 have hu53:=Tryz.underlying53
 have HR2_2:=yaa.mk hr2_2
 have HC2_2:=yaa.mk hc2_2
 clear hr2_2 hc2_2
 have HB:=yaa.mk (Below.refl w.heap.size w)
 have H:(if a0<1 then (yba.j0 k a0 a1 true a2_0 a2_1 l2_2) else (yba.j0 k a0 a1 (decide (a0 > 8)) a2_0 a2_1 l2_2))=some r:=h
 clear h
 have HC4:=yaa.mk H
 clear H
 go_enter Tryz.func56,Tryz.ntmps56
 go_upto_region 1 with (first|((with_reducible refine yb1 (N:=5) rfl ?_);(try (refine ygw (by rfl) ?_;dsimp only));refine yfr ?hg (N:=5) ?hd (cs:=#[.bool a2_0,.int .i64 a2_1,.slice A2_2 l2_2.length c2_2]) (t:=53) ?hr ?_;(case hd=>rfl);(case hg=>rfl);(case hr=>first|(go_simp;done)|(go_simp;rfl));intro gb610 hg w5 hbox hb;have n0_:=yaa.mk (yai zB hb);have n1_:=yaa.mk (hbox);have n2_:=yaa.mk ((by rw[hg];exact(yaf zB):w.heap.size≤gb610));have n3_:=yaa.mk ((by rw[hg];exact(yaf zB):w.heap.size≤gb610));clear HB;have HB:=n0_;have BK610:=n1_;have GW610:=n2_;have GE610:=n3_;clear n0_ n1_ n2_ n3_;clear hb hbox hg))
 repeat (go_quiet (first|((with_reducible refine yb1 (N:=5) rfl ?_);(try (refine ygw (by rfl) ?_;dsimp only));refine yfr ?hg (N:=5) ?hd (cs:=#[.bool a2_0,.int .i64 a2_1,.slice A2_2 l2_2.length c2_2]) (t:=53) ?hr ?_;(case hd=>rfl);(case hg=>rfl);(case hr=>first|(go_simp;done)|(go_simp;rfl));intro gb610 hg w5 hbox hb;have n0_:=yaa.mk (yai zB hb);have n1_:=yaa.mk (hbox);have n2_:=yaa.mk ((by rw[hg];exact(yaf zB):w.heap.size≤gb610));have n3_:=yaa.mk ((by rw[hg];exact(yaf zB):w.heap.size≤gb610));clear HB;have HB:=n0_;have BK610:=n1_;have GW610:=n2_;have GE610:=n3_;clear n0_ n1_ n2_ n3_;clear hb hbox hg));go_upto_region 1 with (first|((with_reducible refine yb1 (N:=5) rfl ?_);(try (refine ygw (by rfl) ?_;dsimp only));refine yfr ?hg (N:=5) ?hd (cs:=#[.bool a2_0,.int .i64 a2_1,.slice A2_2 l2_2.length c2_2]) (t:=53) ?hr ?_;(case hd=>rfl);(case hg=>rfl);(case hr=>first|(go_simp;done)|(go_simp;rfl));intro gb610 hg w5 hbox hb;have n0_:=yaa.mk (yai zB hb);have n1_:=yaa.mk (hbox);have n2_:=yaa.mk ((by rw[hg];exact(yaf zB):w.heap.size≤gb610));have n3_:=yaa.mk ((by rw[hg];exact(yaf zB):w.heap.size≤gb610));clear HB;have HB:=n0_;have BK610:=n1_;have GW610:=n2_;have GE610:=n3_;clear n0_ n1_ n2_ n3_;clear hb hbox hg)))
 (try simp only[Act.put,List.setIfInBounds_toArray,List.set_cons_zero,List.set_cons_succ])
 go_cut [12] (fun v12 wc=>∃ (kq:Nat) (x12_3:Bool),v12=.bool x12_3∧yaa (yba.j0 kq a0 a1 x12_3 a2_0 a2_1 l2_2=some r)∧yaa (kq≤k)∧yaa (wc.heap[gb610]?=some (.cells #[.bool a2_0,.int .i64 a2_1,(.slice A2_2 l2_2.length c2_2)] 53 (0,0)))∧yaa (Below w.heap.size w wc))
 case first =>
  have H:=HC4.out
  clear HC4
  by_cases c6:a0<1
  ·rw[if_pos c6] at H
   have c6b0:=decide_eq_true c6
   clear c6
   (first|rw[c6b0]|(simp only[ybz,ycs];rw[c6b0])|skip)
   have H':=yaa.mk H
   clear H
   go_wp2
   repeat (go_quiet (fail);try go_wp2)
   go_meet
   case rel=>exact⟨_,(true),zF,H',⟨by first|omega|exact Nat.le_refl _⟩,⟨by (with_reducible repeat (first|refine ych ?_ _|refine ycq ?_|refine ycg ?_ _));exact BK610.out⟩,⟨(have GE_:=GE610;zT)⟩⟩
  ·rw[if_neg c6] at H
   have c6b0:=decide_eq_false c6
   clear c6
   (first|rw[c6b0]|(simp only[ybz,ycs];rw[c6b0])|skip)
   have H':=yaa.mk H
   clear H
   go_wp2
   repeat (go_quiet (fail);try go_wp2)
   go_meet
   case rel=>exact⟨_,(decide (a0 > 8)),zF,H',⟨by first|omega|exact Nat.le_refl _⟩,⟨by (with_reducible repeat (first|refine ych ?_ _|refine ycq ?_|refine ycg ?_ _));exact BK610.out⟩,⟨(have GE_:=GE610;zT)⟩⟩
 case rest =>
  clear HC4
  try clear c2
  try clear p2
  try clear c5
  try clear c6
  try clear c6b0
  obtain⟨kq,x12_3,rfl,HA,HJ3,BK610,HB⟩:=hcut
  cases kq with
  | zero=>exact absurd HA.out (by simp [yba.j0])
  | succ kj3 =>
   have H:=HA.out
   clear HA
   simp only[yba.j0] at H
   by_cases c7:x12_3=true
   ·subst c7
    have H1:(some 1)=some r:=by rw[if_pos rfl] at H;exact H
    clear H
    have H:=H1
    clear H1
    obtain rfl:=Option.some.inj H
    go_wp2
    repeat (go_quiet (fail);try go_wp2)
    go_ret
    exact⟨zG,(have GE_:=GE610;zT)⟩
   ·replace c7:=Bool.eq_false_iff.mpr c7
    subst c7
    have H1:(if a2_0=true then (if a1=true then (if a2_1=0 then (if (l2_2.length:Int) > 0 then (some 50) else (some 0)) else (some 50)) else (some 51)) else (if a0≤6 then (if (l2_2.length:Int) > 0 then (some 50) else ((yca.f a0).bind fun t611=>(if a2_1<t611 then (some 52) else ((ycb.f a0).bind fun t612=>(if a2_1 > t612 then (some 52) else (some 0)))))) else (if a2_1=0 then (if (l2_2.length:Int) > 200 then (some 4) else (if a0=7 then ((ybf.f kj3 l2_2).bind fun t613=>(if t613=true then (some 5) else (some 0))) else (some 0))) else (some 50))))=some r:=by rw[if_neg (show ¬ (false=true) by decide)] at H;exact H
    clear H
    have H:=H1
    clear H1
    by_cases c8:a2_0=true
    ·subst c8
     have H1:(if a1=true then (if a2_1=0 then (if (l2_2.length:Int) > 0 then (some 50) else (some 0)) else (some 50)) else (some 51))=some r:=by rw[if_pos rfl] at H;exact H
     clear H
     have H:=H1
     clear H1
     by_cases c9:a1=true
     ·subst c9
      have H1:(if a2_1=0 then (if (l2_2.length:Int) > 0 then (some 50) else (some 0)) else (some 50))=some r:=by rw[if_pos rfl] at H;exact H
      clear H
      have H:=H1
      clear H1
      by_cases c10:a2_1=0
      ·rw[if_pos c10] at H
       have c10b0:(a2_1 == 0)=true:=beq_iff_eq.mpr c10
       have c10b1:(a2_1 != 0)=false:=bne_eq_false_iff_eq.mpr c10
       clear c10
       by_cases c11:(l2_2.length:Int) > 0
       ·rw[if_pos c11] at H
        have c11b0:decide (0<(l2_2.length:Int))=true:=decide_eq_true c11
        have c11b1:decide (0<l2_2.length)=true:=decide_eq_true (by omega)
        clear c11
        obtain rfl:=Option.some.inj H
        have hcz12_0:wc.cell? ⟨gb610,0,none⟩=some (.bool true):=(yau BK610.out 0).trans rfl
        have hcz12_1:wc.cell? ⟨gb610,1,none⟩=some (.int .i64 a2_1):=(yau BK610.out 1).trans rfl
        have hcz12_2:wc.cell? ⟨gb610,2,none⟩=some (.slice A2_2 l2_2.length c2_2):=(yau BK610.out 2).trans rfl
        have hfz12_0:=yas BK610.out 0
        have hfz12_1:=yas BK610.out 1
        have hfz12_2:=yas BK610.out 2
        go_wp2
        repeat (go_quiet (fail);try go_wp2)
        go_ret
        exact⟨zG,(have GE_:=GE610;zT)⟩
       ·rw[if_neg c11] at H
        have c11b0:decide (0<(l2_2.length:Int))=false:=decide_eq_false c11
        have c11b1:decide (0<l2_2.length)=false:=decide_eq_false (by omega)
        clear c11
        obtain rfl:=Option.some.inj H
        have hcz13_0:wc.cell? ⟨gb610,0,none⟩=some (.bool true):=(yau BK610.out 0).trans rfl
        have hcz13_1:wc.cell? ⟨gb610,1,none⟩=some (.int .i64 a2_1):=(yau BK610.out 1).trans rfl
        have hcz13_2:wc.cell? ⟨gb610,2,none⟩=some (.slice A2_2 l2_2.length c2_2):=(yau BK610.out 2).trans rfl
        have hfz13_0:=yas BK610.out 0
        have hfz13_1:=yas BK610.out 1
        have hfz13_2:=yas BK610.out 2
        go_wp2
        repeat (go_quiet (fail);try go_wp2)
        go_ret
        exact⟨zG,(have GE_:=GE610;zT)⟩
      ·rw[if_neg c10] at H
       have c10b0:(a2_1 == 0)=false:=beq_eq_false_iff_ne.mpr c10
       have c10b1:(a2_1 != 0)=true:=bne_iff_ne.mpr c10
       obtain rfl:=Option.some.inj H
       have hcz14_0:wc.cell? ⟨gb610,0,none⟩=some (.bool true):=(yau BK610.out 0).trans rfl
       have hcz14_1:wc.cell? ⟨gb610,1,none⟩=some (.int .i64 a2_1):=(yau BK610.out 1).trans rfl
       have hcz14_2:wc.cell? ⟨gb610,2,none⟩=some (.slice A2_2 l2_2.length c2_2):=(yau BK610.out 2).trans rfl
       have hfz14_0:=yas BK610.out 0
       have hfz14_1:=yas BK610.out 1
       have hfz14_2:=yas BK610.out 2
       go_wp2
       repeat (go_quiet (fail);try go_wp2)
       go_ret
       exact⟨zG,(have GE_:=GE610;zT)⟩
     ·replace c9:=Bool.eq_false_iff.mpr c9
      subst c9
      have H1:(some 51)=some r:=by rw[if_neg (show ¬ (false=true) by decide)] at H;exact H
      clear H
      have H:=H1
      clear H1
      obtain rfl:=Option.some.inj H
      have hcz15_0:wc.cell? ⟨gb610,0,none⟩=some (.bool true):=(yau BK610.out 0).trans rfl
      have hcz15_1:wc.cell? ⟨gb610,1,none⟩=some (.int .i64 a2_1):=(yau BK610.out 1).trans rfl
      have hcz15_2:wc.cell? ⟨gb610,2,none⟩=some (.slice A2_2 l2_2.length c2_2):=(yau BK610.out 2).trans rfl
      have hfz15_0:=yas BK610.out 0
      have hfz15_1:=yas BK610.out 1
      have hfz15_2:=yas BK610.out 2
      go_wp2
      repeat (go_quiet (fail);try go_wp2)
      go_ret
      exact⟨zG,(have GE_:=GE610;zT)⟩
    ·replace c8:=Bool.eq_false_iff.mpr c8
     subst c8
     have H1:(if a0≤6 then (if (l2_2.length:Int) > 0 then (some 50) else ((yca.f a0).bind fun t611=>(if a2_1<t611 then (some 52) else ((ycb.f a0).bind fun t612=>(if a2_1 > t612 then (some 52) else (some 0)))))) else (if a2_1=0 then (if (l2_2.length:Int) > 200 then (some 4) else (if a0=7 then ((ybf.f kj3 l2_2).bind fun t613=>(if t613=true then (some 5) else (some 0))) else (some 0))) else (some 50)))=some r:=by rw[if_neg (show ¬ (false=true) by decide)] at H;exact H
     clear H
     have H:=H1
     clear H1
     by_cases c16:a0≤6
     ·rw[if_pos c16] at H
      have c16b0:=decide_eq_true c16
      clear c16
      by_cases c17:(l2_2.length:Int) > 0
      ·rw[if_pos c17] at H
       have c17b0:decide (0<(l2_2.length:Int))=true:=decide_eq_true c17
       have c17b1:decide (0<l2_2.length)=true:=decide_eq_true (by omega)
       clear c17
       obtain rfl:=Option.some.inj H
       have hcz18_0:wc.cell? ⟨gb610,0,none⟩=some (.bool false):=(yau BK610.out 0).trans rfl
       have hcz18_1:wc.cell? ⟨gb610,1,none⟩=some (.int .i64 a2_1):=(yau BK610.out 1).trans rfl
       have hcz18_2:wc.cell? ⟨gb610,2,none⟩=some (.slice A2_2 l2_2.length c2_2):=(yau BK610.out 2).trans rfl
       have hfz18_0:=yas BK610.out 0
       have hfz18_1:=yas BK610.out 1
       have hfz18_2:=yas BK610.out 2
       go_wp2
       repeat (go_quiet (fail);try go_wp2)
       go_ret
       exact⟨zG,(have GE_:=GE610;zT)⟩
      ·rw[if_neg c17] at H
       have c17b0:decide (0<(l2_2.length:Int))=false:=decide_eq_false c17
       have c17b1:decide (0<l2_2.length)=false:=decide_eq_false (by omega)
       clear c17
       replace H:=Option.bind_eq_some_iff.mp H
       obtain⟨t611,A190,H⟩:=H
       try dsimp only at H
       have A19:=yaa.mk A190
       clear A190
       by_cases c20:a2_1<t611
       ·rw[if_pos c20] at H
        have c20b0:=decide_eq_true c20
        clear c20
        obtain rfl:=Option.some.inj H
        have hcz21_0:wc.cell? ⟨gb610,0,none⟩=some (.bool false):=(yau BK610.out 0).trans rfl
        have hcz21_1:wc.cell? ⟨gb610,1,none⟩=some (.int .i64 a2_1):=(yau BK610.out 1).trans rfl
        have hcz21_2:wc.cell? ⟨gb610,2,none⟩=some (.slice A2_2 l2_2.length c2_2):=(yau BK610.out 2).trans rfl
        have hfz21_0:=yas BK610.out 0
        have hfz21_1:=yas BK610.out 1
        have hfz21_2:=yas BK610.out 2
        go_wp2_with (first|(go_at_call 91;(with_reducible refine(yca.calls a0 t611 _ A19.out).mono ?_);rintro e w' ⟨rfl,⟨nd,rfl⟩⟩;(try exact zQ)))
        repeat (go_quiet (first|(go_at_call 91;(with_reducible refine(yca.calls a0 t611 _ A19.out).mono ?_);rintro e w' ⟨rfl,⟨nd,rfl⟩⟩;(try exact zQ)));try go_wp2_with (first|(go_at_call 91;(with_reducible refine(yca.calls a0 t611 _ A19.out).mono ?_);rintro e w' ⟨rfl,⟨nd,rfl⟩⟩;(try exact zQ))))
        go_ret
        exact⟨zG,(have GE_:=GE610;zT)⟩
       ·rw[if_neg c20] at H
        have c20b0:=decide_eq_false c20
        clear c20
        replace H:=Option.bind_eq_some_iff.mp H
        obtain⟨t612,A220,H⟩:=H
        try dsimp only at H
        have A22:=yaa.mk A220
        clear A220
        by_cases c23:a2_1 > t612
        ·rw[if_pos c23] at H
         have c23b0:decide (t612<a2_1)=true:=decide_eq_true c23
         clear c23
         obtain rfl:=Option.some.inj H
         have hcz24_0:wc.cell? ⟨gb610,0,none⟩=some (.bool false):=(yau BK610.out 0).trans rfl
         have hcz24_1:wc.cell? ⟨gb610,1,none⟩=some (.int .i64 a2_1):=(yau BK610.out 1).trans rfl
         have hcz24_2:wc.cell? ⟨gb610,2,none⟩=some (.slice A2_2 l2_2.length c2_2):=(yau BK610.out 2).trans rfl
         have hfz24_0:=yas BK610.out 0
         have hfz24_1:=yas BK610.out 1
         have hfz24_2:=yas BK610.out 2
         go_wp2_with (first|(go_at_call 91;(with_reducible refine(yca.calls a0 t611 _ A19.out).mono ?_);rintro e w' ⟨rfl,⟨nd,rfl⟩⟩;(try exact zQ))|(go_at_call 92;(with_reducible refine(ycb.calls a0 t612 _ A22.out).mono ?_);rintro e w' ⟨rfl,⟨nd,rfl⟩⟩;(try exact zQ)))
         repeat (go_quiet (first|(go_at_call 91;(with_reducible refine(yca.calls a0 t611 _ A19.out).mono ?_);rintro e w' ⟨rfl,⟨nd,rfl⟩⟩;(try exact zQ))|(go_at_call 92;(with_reducible refine(ycb.calls a0 t612 _ A22.out).mono ?_);rintro e w' ⟨rfl,⟨nd,rfl⟩⟩;(try exact zQ)));try go_wp2_with (first|(go_at_call 91;(with_reducible refine(yca.calls a0 t611 _ A19.out).mono ?_);rintro e w' ⟨rfl,⟨nd,rfl⟩⟩;(try exact zQ))|(go_at_call 92;(with_reducible refine(ycb.calls a0 t612 _ A22.out).mono ?_);rintro e w' ⟨rfl,⟨nd,rfl⟩⟩;(try exact zQ))))
         go_ret
         exact⟨zG,(have GE_:=GE610;zT)⟩
        ·rw[if_neg c23] at H
         have c23b0:decide (t612<a2_1)=false:=decide_eq_false c23
         clear c23
         obtain rfl:=Option.some.inj H
         have hcz25_0:wc.cell? ⟨gb610,0,none⟩=some (.bool false):=(yau BK610.out 0).trans rfl
         have hcz25_1:wc.cell? ⟨gb610,1,none⟩=some (.int .i64 a2_1):=(yau BK610.out 1).trans rfl
         have hcz25_2:wc.cell? ⟨gb610,2,none⟩=some (.slice A2_2 l2_2.length c2_2):=(yau BK610.out 2).trans rfl
         have hfz25_0:=yas BK610.out 0
         have hfz25_1:=yas BK610.out 1
         have hfz25_2:=yas BK610.out 2
         go_wp2_with (first|(go_at_call 91;(with_reducible refine(yca.calls a0 t611 _ A19.out).mono ?_);rintro e w' ⟨rfl,⟨nd,rfl⟩⟩;(try exact zQ))|(go_at_call 92;(with_reducible refine(ycb.calls a0 t612 _ A22.out).mono ?_);rintro e w' ⟨rfl,⟨nd,rfl⟩⟩;(try exact zQ)))
         repeat (go_quiet (first|(go_at_call 91;(with_reducible refine(yca.calls a0 t611 _ A19.out).mono ?_);rintro e w' ⟨rfl,⟨nd,rfl⟩⟩;(try exact zQ))|(go_at_call 92;(with_reducible refine(ycb.calls a0 t612 _ A22.out).mono ?_);rintro e w' ⟨rfl,⟨nd,rfl⟩⟩;(try exact zQ)));try go_wp2_with (first|(go_at_call 91;(with_reducible refine(yca.calls a0 t611 _ A19.out).mono ?_);rintro e w' ⟨rfl,⟨nd,rfl⟩⟩;(try exact zQ))|(go_at_call 92;(with_reducible refine(ycb.calls a0 t612 _ A22.out).mono ?_);rintro e w' ⟨rfl,⟨nd,rfl⟩⟩;(try exact zQ))))
         go_ret
         exact⟨zG,(have GE_:=GE610;zT)⟩
     ·rw[if_neg c16] at H
      have c16b0:=decide_eq_false c16
      clear c16
      by_cases c26:a2_1=0
      ·rw[if_pos c26] at H
       have c26b0:(a2_1 == 0)=true:=beq_iff_eq.mpr c26
       have c26b1:(a2_1 != 0)=false:=bne_eq_false_iff_eq.mpr c26
       clear c26
       by_cases c27:(l2_2.length:Int) > 200
       ·rw[if_pos c27] at H
        have c27b0:decide (200<(l2_2.length:Int))=true:=decide_eq_true c27
        have c27b1:decide (200<l2_2.length)=true:=decide_eq_true (by omega)
        clear c27
        obtain rfl:=Option.some.inj H
        have hcz28_0:wc.cell? ⟨gb610,0,none⟩=some (.bool false):=(yau BK610.out 0).trans rfl
        have hcz28_1:wc.cell? ⟨gb610,1,none⟩=some (.int .i64 a2_1):=(yau BK610.out 1).trans rfl
        have hcz28_2:wc.cell? ⟨gb610,2,none⟩=some (.slice A2_2 l2_2.length c2_2):=(yau BK610.out 2).trans rfl
        have hfz28_0:=yas BK610.out 0
        have hfz28_1:=yas BK610.out 1
        have hfz28_2:=yas BK610.out 2
        go_wp2
        repeat (go_quiet (fail);try go_wp2)
        go_ret
        exact⟨zG,(have GE_:=GE610;zT)⟩
       ·rw[if_neg c27] at H
        have c27b0:decide (200<(l2_2.length:Int))=false:=decide_eq_false c27
        have c27b1:decide (200<l2_2.length)=false:=decide_eq_false (by omega)
        clear c27
        by_cases c29:a0=7
        ·rw[if_pos c29] at H
         have c29b0:(a0 == 7)=true:=beq_iff_eq.mpr c29
         have c29b1:(a0 != 7)=false:=bne_eq_false_iff_eq.mpr c29
         clear c29
         replace H:=Option.bind_eq_some_iff.mp H
         obtain⟨t613,A300,H⟩:=H
         try dsimp only at H
         have A30:=yaa.mk A300
         clear A300
         by_cases c31:t613=true
         ·subst c31
          have H1:(some 5)=some r:=by rw[if_pos rfl] at H;exact H
          clear H
          have H:=H1
          clear H1
          obtain rfl:=Option.some.inj H
          have hcz32_0:wc.cell? ⟨gb610,0,none⟩=some (.bool false):=(yau BK610.out 0).trans rfl
          have hcz32_1:wc.cell? ⟨gb610,1,none⟩=some (.int .i64 a2_1):=(yau BK610.out 1).trans rfl
          have hcz32_2:wc.cell? ⟨gb610,2,none⟩=some (.slice A2_2 l2_2.length c2_2):=(yau BK610.out 2).trans rfl
          have hfz32_0:=yas BK610.out 0
          have hfz32_1:=yas BK610.out 1
          have hfz32_2:=yas BK610.out 2
          go_wp2_with (first|(go_at_call 93;(with_reducible refine(ybf.calls kj3 _ _ l2_2 true _ ?side1 ?side2 A30.out).mono ?_);(case side1=>exact zC (Kd.C_below HR2_2.out HB.out));(case side2=>exact HC2_2.out);rintro e w' ⟨rfl,⟨nd,rfl⟩⟩;(try exact zQ)))
          repeat (go_quiet (first|(go_at_call 93;(with_reducible refine(ybf.calls kj3 _ _ l2_2 true _ ?side1 ?side2 A30.out).mono ?_);(case side1=>exact zC (Kd.C_below HR2_2.out HB.out));(case side2=>exact HC2_2.out);rintro e w' ⟨rfl,⟨nd,rfl⟩⟩;(try exact zQ)));try go_wp2_with (first|(go_at_call 93;(with_reducible refine(ybf.calls kj3 _ _ l2_2 true _ ?side1 ?side2 A30.out).mono ?_);(case side1=>exact zC (Kd.C_below HR2_2.out HB.out));(case side2=>exact HC2_2.out);rintro e w' ⟨rfl,⟨nd,rfl⟩⟩;(try exact zQ))))
          go_ret
          exact⟨zG,(have GE_:=GE610;zT)⟩
         ·replace c31:=Bool.eq_false_iff.mpr c31
          subst c31
          have H1:(some 0)=some r:=by rw[if_neg (show ¬ (false=true) by decide)] at H;exact H
          clear H
          have H:=H1
          clear H1
          obtain rfl:=Option.some.inj H
          have hcz33_0:wc.cell? ⟨gb610,0,none⟩=some (.bool false):=(yau BK610.out 0).trans rfl
          have hcz33_1:wc.cell? ⟨gb610,1,none⟩=some (.int .i64 a2_1):=(yau BK610.out 1).trans rfl
          have hcz33_2:wc.cell? ⟨gb610,2,none⟩=some (.slice A2_2 l2_2.length c2_2):=(yau BK610.out 2).trans rfl
          have hfz33_0:=yas BK610.out 0
          have hfz33_1:=yas BK610.out 1
          have hfz33_2:=yas BK610.out 2
          go_wp2_with (first|(go_at_call 93;(with_reducible refine(ybf.calls kj3 _ _ l2_2 false _ ?side1 ?side2 A30.out).mono ?_);(case side1=>exact zC (Kd.C_below HR2_2.out HB.out));(case side2=>exact HC2_2.out);rintro e w' ⟨rfl,⟨nd,rfl⟩⟩;(try exact zQ)))
          repeat (go_quiet (first|(go_at_call 93;(with_reducible refine(ybf.calls kj3 _ _ l2_2 false _ ?side1 ?side2 A30.out).mono ?_);(case side1=>exact zC (Kd.C_below HR2_2.out HB.out));(case side2=>exact HC2_2.out);rintro e w' ⟨rfl,⟨nd,rfl⟩⟩;(try exact zQ)));try go_wp2_with (first|(go_at_call 93;(with_reducible refine(ybf.calls kj3 _ _ l2_2 false _ ?side1 ?side2 A30.out).mono ?_);(case side1=>exact zC (Kd.C_below HR2_2.out HB.out));(case side2=>exact HC2_2.out);rintro e w' ⟨rfl,⟨nd,rfl⟩⟩;(try exact zQ))))
          go_ret
          exact⟨zG,(have GE_:=GE610;zT)⟩
        ·rw[if_neg c29] at H
         have c29b0:(a0 == 7)=false:=beq_eq_false_iff_ne.mpr c29
         have c29b1:(a0 != 7)=true:=bne_iff_ne.mpr c29
         obtain rfl:=Option.some.inj H
         have hcz34_0:wc.cell? ⟨gb610,0,none⟩=some (.bool false):=(yau BK610.out 0).trans rfl
         have hcz34_1:wc.cell? ⟨gb610,1,none⟩=some (.int .i64 a2_1):=(yau BK610.out 1).trans rfl
         have hcz34_2:wc.cell? ⟨gb610,2,none⟩=some (.slice A2_2 l2_2.length c2_2):=(yau BK610.out 2).trans rfl
         have hfz34_0:=yas BK610.out 0
         have hfz34_1:=yas BK610.out 1
         have hfz34_2:=yas BK610.out 2
         go_wp2
         repeat (go_quiet (fail);try go_wp2)
         go_ret
         exact⟨zG,(have GE_:=GE610;zT)⟩
      ·rw[if_neg c26] at H
       have c26b0:(a2_1 == 0)=false:=beq_eq_false_iff_ne.mpr c26
       have c26b1:(a2_1 != 0)=true:=bne_iff_ne.mpr c26
       obtain rfl:=Option.some.inj H
       have hcz35_0:wc.cell? ⟨gb610,0,none⟩=some (.bool false):=(yau BK610.out 0).trans rfl
       have hcz35_1:wc.cell? ⟨gb610,1,none⟩=some (.int .i64 a2_1):=(yau BK610.out 1).trans rfl
       have hcz35_2:wc.cell? ⟨gb610,2,none⟩=some (.slice A2_2 l2_2.length c2_2):=(yau BK610.out 2).trans rfl
       have hfz35_0:=yas BK610.out 0
       have hfz35_1:=yas BK610.out 1
       have hfz35_2:=yas BK610.out 2
       go_wp2
       repeat (go_quiet (fail);try go_wp2)
       go_ret
       exact⟨zG,(have GE_:=GE610;zT)⟩
def yb0.l0:Nat→Int→List (S53)→Int→Option (Int)
 | 0,_,_,_=>none
 | k+1,x0,x1,x5=>if x5<(x1.length:Int) then (if 0≤x5 then ((yba.f k x0 true ((yar x1 x5).f0) ((yar x1 x5).f1) ((yar x1 x5).f2)).bind fun t615=>(if t615=0 then (yb0.l0 k x0 x1 (wrap64 (x5+1))) else (some t615))) else (none)) else (some 0)
def yb0.f (k:Nat) (a0:Int) (l1:List (S53)):Option (Int):=if (l1.length:Int) > 4096 then (some 4) else (yb0.l0 k a0 l1 0)
theorem yb0.calls (k:Nat) (a0:Int) (A1:Option Addr) (c1:Nat) (l1:List (S53)) (r:Int) (w:World) (hr1:Kd.C k53 w A1 l1.length l1) (hc1:l1.length≤c1) (h:yb0.f k a0 l1=some r) :
  Calls Tryz.prog 33 #[.int .i64 a0,.slice A1 l1.length c1] w fun e w'=>e=.returned (.int .i64 r)∧Below w.heap.size w w':=by
 have hu53:=Tryz.underlying53
 have HR1:=yaa.mk hr1
 have HC1:=yaa.mk hc1
 clear hr1 hc1
 have HB:=yaa.mk (Below.refl w.heap.size w)
 have H:(if (l1.length:Int) > 4096 then (some 4) else (yb0.l0 k a0 l1 0))=some r:=h
 clear h
 by_cases c3:(l1.length:Int) > 4096
 ·rw[if_pos c3] at H
  have c3b0:decide (4096<(l1.length:Int))=true:=decide_eq_true c3
  have c3b1:decide (4096<l1.length)=true:=decide_eq_true (by omega)
  clear c3
  obtain rfl:=Option.some.inj H
  go_enter Tryz.func33,Tryz.ntmps33
  go_wp2
  go_ret
  exact⟨zG,zB⟩
 ·rw[if_neg c3] at H
  have c3b0:decide (4096<(l1.length:Int))=false:=decide_eq_false c3
  have c3b1:decide (4096<l1.length)=false:=decide_eq_false (by omega)
  clear c3
  have H':=yaa.mk H
  clear H
  go_enter Tryz.func33,Tryz.ntmps33
  go_wp2
  go_loopg [5] k (fun kq v5 w'=>∃ (x5_1:Int),v5=.int .i64 x5_1∧yaa (yb0.l0 kq a0 l1 x5_1=some r)∧yaa (kq≤k)∧yaa (Below w.heap.size w w'))
  case atStart=>exact⟨(0),zF,H',⟨Nat.le_refl _⟩,⟨zB⟩⟩
  case round =>
   clear H'
   try clear c1
   try clear p2
   try clear c3
   try clear c3b0
   try clear c3b1
   obtain⟨x5_1,rfl,HA,HK1,HB⟩:=hrel
   cases gk with
   | zero=>exact absurd HA.out (by simp [yb0.l0])
   | succ k1 =>
    have H:=HA.out
    clear HA
    simp only[yb0.l0] at H
    by_cases c4:x5_1<(l1.length:Int)
    ·rw[if_pos c4] at H
     have c4b0:=decide_eq_true c4
     clear c4
     by_cases c5:0≤x5_1
     ·rw[if_pos c5] at H
      have c5b0:=decide_eq_true c5
      clear c5
      replace H:=Option.bind_eq_some_iff.mp H
      obtain⟨t615,A60,H⟩:=H
      try dsimp only at H
      have A6:=yaa.mk A60
      clear A60
      by_cases c7:t615=0
      ·rw[if_pos c7] at H
       have c7b0:(t615 == 0)=true:=beq_iff_eq.mpr c7
       have c7b1:(t615 != 0)=false:=bne_eq_false_iff_eq.mpr c7
       clear c7
       have H':=yaa.mk H
       clear H
       have p614:0≤(x5_1:Int):=of_decide_eq_true zA
       have q614:x5_1<(l1.length:Int):=of_decide_eq_true zA
       obtain⟨ad614,A614_2,c614_2,e614,hx614_0,hx614_1,hx614_2,hl614_2,hi614_2⟩:=yfv HR1.out x5_1 p614 q614
       cases e614
       replace hx614_0:=(HB.out.cell (World.block_lt_of_cell? w _ hx614_0)).trans hx614_0
       replace hx614_1:=(HB.out.cell (World.block_lt_of_cell? w _ hx614_1)).trans hx614_1
       replace hx614_2:=(HB.out.cell (World.block_lt_of_cell? w _ hx614_2)).trans hx614_2
       have HR614_2:=yaa.mk hi614_2
       have HC614_2:=yaa.mk hl614_2
       clear hi614_2 hl614_2
       replace p614:=eq_true p614
       replace q614:=eq_true q614
       go_wp2_with (first|((with_reducible refine yad (f:=56) rfl ?_);refine yak (some 21) rfl rfl Tryz.func56 (by kernel_rfl) rfl #[.int .i64 a0,.bool true,.agg #[.bool ((yar l1 x5_1).f0),.int .i64 ((yar l1 x5_1).f1),.slice A614_2 ((yar l1 x5_1).f2).length c614_2]] rfl zE ?_;(with_reducible refine(yba.calls k1 a0 true ((yar l1 x5_1).f0) ((yar l1 x5_1).f1) _ _ ((yar l1 x5_1).f2) t615 _ ?side1 ?side2 A6.out).mono ?_);(case side1=>exact zC (Kd.C_below HR614_2.out HB.out));(case side2=>exact HC614_2.out);rintro e w8 ⟨rfl,hb⟩;refine⟨_,rfl,?_⟩;have n0_:=yaa.mk (yai zB hb);clear HB;have HB:=n0_;clear n0_;(try clear hb);(try clear hb2);(try clear hk);(try clear hi)))
       go_roundg k1
       case measure=>have:=HK1.out;omega
       case rel=>exact⟨(wrap64 (x5_1+1)),zF,H',⟨by have:=HK1.out;omega⟩,⟨zB⟩⟩
      ·rw[if_neg c7] at H
       have c7b0:(t615 == 0)=false:=beq_eq_false_iff_ne.mpr c7
       have c7b1:(t615 != 0)=true:=bne_iff_ne.mpr c7
       obtain rfl:=Option.some.inj H
       have p614:0≤(x5_1:Int):=of_decide_eq_true zA
       have q614:x5_1<(l1.length:Int):=of_decide_eq_true zA
       obtain⟨ad614,A614_2,c614_2,e614,hx614_0,hx614_1,hx614_2,hl614_2,hi614_2⟩:=yfv HR1.out x5_1 p614 q614
       cases e614
       replace hx614_0:=(HB.out.cell (World.block_lt_of_cell? w _ hx614_0)).trans hx614_0
       replace hx614_1:=(HB.out.cell (World.block_lt_of_cell? w _ hx614_1)).trans hx614_1
       replace hx614_2:=(HB.out.cell (World.block_lt_of_cell? w _ hx614_2)).trans hx614_2
       have HR614_2:=yaa.mk hi614_2
       have HC614_2:=yaa.mk hl614_2
       clear hi614_2 hl614_2
       replace p614:=eq_true p614
       replace q614:=eq_true q614
       go_wp2_with (first|((with_reducible refine yad (f:=56) rfl ?_);refine yak (some 21) rfl rfl Tryz.func56 (by kernel_rfl) rfl #[.int .i64 a0,.bool true,.agg #[.bool ((yar l1 x5_1).f0),.int .i64 ((yar l1 x5_1).f1),.slice A614_2 ((yar l1 x5_1).f2).length c614_2]] rfl zE ?_;(with_reducible refine(yba.calls k1 a0 true ((yar l1 x5_1).f0) ((yar l1 x5_1).f1) _ _ ((yar l1 x5_1).f2) t615 _ ?side1 ?side2 A6.out).mono ?_);(case side1=>exact zC (Kd.C_below HR614_2.out HB.out));(case side2=>exact HC614_2.out);rintro e w9 ⟨rfl,hb⟩;refine⟨_,rfl,?_⟩;have n0_:=yaa.mk (yai zB hb);clear HB;have HB:=n0_;clear n0_;(try clear hb);(try clear hb2);(try clear hk);(try clear hi)))
       go_ret
       exact⟨zG,zB⟩
     ·rw[if_neg c5] at H
      exact absurd H (by simp)
    ·rw[if_neg c4] at H
     have c4b0:=decide_eq_false c4
     clear c4
     obtain rfl:=Option.some.inj H
     go_wp2
     go_ret
     exact⟨zG,zB⟩
def yek.l0:Nat→List Int→List Int→Int→Option (List Int)
 | 0,_,_,_=>none
 | k+1,x0,x1,x5=>if x5<(x1.length:Int) then (if 0≤x5 then (if x0.length<140737488355328 then (yek.l0 k (x0++[rd x1 x5]) x1 (wrap64 (x5+1))) else (none)) else (none)) else (some x0)
def yek.f (k:Nat) (l0:List Int) (l1:List Int):Option (List Int):=yek.l0 k l0 l1 0
def ycl.l0:Nat→Int→List Int→Option (List Int)
 | 0,_,_=>none
 | k+1,x0,x3=>if x0 > 127 then (if x3.length<140737488355328 then (ycl.l0 k (IntKind.u64.wrap (Int.tdiv x0 128)) (x3++[(IntKind.u64.wrap ((Int.tmod x0 128)+128))%256])) else (none)) else (if x3.length<140737488355328 then (some (x3++[(x0)%256])) else (none))
def ycl.f (k:Nat) (a0:Int):Option (List Int):=ycl.l0 k a0 (([]:List Int))
end Go.Proofs.YteeikgjjgfdjgaaGreat.PK
end
section
namespace Go.Proofs.YteeikgjjgfdjgaaGreat.PK
open Go.RowKit YteeikgjjgfdjgaaGreatW.PrintWords YteeikgjjgfdjgaaGreatW.PrintLast YteeikgjjgfdjgaaGreatW.PrintMore
attribute [local go_sem] yce ycf ycu ycv yb8 yb7 ycm yco
set_option linter.unusedVariables false
set_option linter.unusedSimpArgs false
mutual
def yee.l0:Nat→List Int→List (S150)→Int→Option ((List (S150))×Int)
 | 0,_,_,_=>none
 | k+1,x0,x4,x5=>if x5<(x0.length:Int) then (yee.l1 k x0 x4 x5 1) else (some (x4,0))
def yee.l1:Nat→List Int→List (S150)→Int→Int→Option ((List (S150))×Int)
 | 0,_,_,_,_=>none
 | k+1,x0,x4,x5,x6=>if (wrap64 (x5+x6))<(x0.length:Int) then (if 0≤(wrap64 (x5+x6)) then (if 0≤x5 then (if x5<(x0.length:Int) then (if (rd x0 (wrap64 (x5+x6)))=(rd x0 x5) then (yee.l1 k x0 x4 x5 (wrap64 (x6+1))) else (if x4.length<8796093022208 then (yee.l0 k x0 (x4++[(⟨rd x0 x5,x6⟩:S150)]) (wrap64 ((wrap64 ((wrap64 (x5+x6))-1))+1))) else (none))) else (none)) else (none)) else (none)) else (if 0≤x5 then (if x5<(x0.length:Int) then (if x4.length<8796093022208 then (yee.l0 k x0 (x4++[(⟨rd x0 x5,x6⟩:S150)]) (wrap64 ((wrap64 ((wrap64 (x5+x6))-1))+1))) else (none)) else (none)) else (none))
end
def yee.f (k:Nat) (l0:List Int):Option ((List (S150))×Int):=if (l0.length:Int) > 4096 then (some (([]:List (S150)),4)) else (yee.l0 k l0 (([]:List (S150))) 0)
def yge.l0:Nat→List (S150)→List Int→Int→Option (List Int×Int)
 | 0,_,_,_=>none
 | k+1,x4,x6,x7=>if x7<(x4.length:Int) then (if 0≤x7 then ((yhp.f ((yat x4 x7).f0)).bind fun t665=>((ycl.f k t665).bind fun t666=>((yaz.f k x6 t666).bind fun t669=>((ycl.f k (IntKind.u64.wrap ((yat x4 x7).f1))).bind fun t673=>((yaz.f k t669 t673).bind fun t676=>(yge.l0 k x4 t676 (wrap64 (x7+1)))))))) else (none)) else (some (x6,0))
def yge.f (k:Nat) (l0:List Int):Option (List Int×Int):=(yee.f k l0).bind fun bt657=>(if bt657.2=0 then ((ycl.f k (IntKind.u64.wrap ((bt657.1.length:Int)))).bind fun t661=>(yge.l0 k bt657.1 t661 0)) else (some (([]:List Int),bt657.2)))
def yfx.l0:Nat→List Int→Int→Int→Option (Int)
 | 0,_,_,_=>none
 | k+1,x0,x3,x4=>if x4<(x0.length:Int) then (if 0≤x4 then (if (rd x0 x4)<x3 then (yfx.l0 k x0 (rd x0 x4) (wrap64 (x4+1))) else (yfx.l0 k x0 x3 (wrap64 (x4+1)))) else (none)) else (some x3)
def yfx.f (k:Nat) (l0:List Int):Option (Int):=if 0<(l0.length:Int) then (yfx.l0 k l0 (rd l0 0) 0) else (none)
end Go.Proofs.YteeikgjjgfdjgaaGreat.PK
end
section
namespace Go.Proofs.YteeikgjjgfdjgaaGreat.PK
open Go.RowKit YteeikgjjgfdjgaaGreatW.PrintWords YteeikgjjgfdjgaaGreatW.PrintLast YteeikgjjgfdjgaaGreatW.PrintMore
attribute [local go_sem] yce ycf ycu ycv yb8 yb7 ycm yco
set_option linter.unusedVariables false
set_option linter.unusedSimpArgs false
def ygg.l0:Nat→List Int→List Int→Int→List Int→Int→Option (List Int×Int)
 | 0,_,_,_,_,_=>none
 | k+1,x0,x4,x5,x6,x7=>if x7<(x0.length:Int) then (if 0≤x7 then (if x6.length<17592186044416 then (ygg.l0 k x0 x4 x5 (x6++[IntKind.u64.wrap ((IntKind.u64.wrap (rd x0 x7))-(IntKind.u64.wrap (x5)))]) (wrap64 (x7+1))) else (none)) else (none)) else ((yal.f k x6).bind fun t693=>((ydb.f k t693 x6).bind fun bt694=>((yhp.f x5).bind fun t698=>((ycl.f k t698).bind fun t699=>((yaz.f k x4 t699).bind fun t702=>(if t702.length<140737488355328 then ((yaz.f k (t702++[(t693)%256]) bt694.1).bind fun t708=>(some (t708,0))) else (none)))))))
def ygg.f (k:Nat) (l0:List Int):Option (List Int×Int):=if (l0.length:Int) > 4096 then (some (([]:List Int),4)) else ((ycl.f k (IntKind.u64.wrap ((l0.length:Int)))).bind fun t682=>(if (l0.length:Int)=0 then (some (t682,0)) else ((yfx.f k l0).bind fun t685=>(ygg.l0 k l0 t682 t685 (([]:List Int)) 0))))
def ydf.f (k:Nat) (a0:Int):Option (Int):=if a0=0 then (some 0) else ((yal.f k (([IntKind.u64.wrap (wrap64 (a0-1))]:List Int))).bind fun t714=>(some t714))
theorem ydf.calls (k:Nat) (a0:Int) (r:Int) (w:World) (h:ydf.f k a0=some r) :
  Calls Tryz.prog 119 #[.int .i64 a0] w fun e w'=>e=.returned (.int .i64 r)∧Below w.heap.size w w':=by
 have HB:=yaa.mk (Below.refl w.heap.size w)
 have H:(if a0=0 then (some 0) else ((yal.f k (([IntKind.u64.wrap (wrap64 (a0-1))]:List Int))).bind fun t714=>(some t714)))=some r:=h
 clear h
 by_cases c2:a0=0
 ·rw[if_pos c2] at H
  have c2b0:(a0 == 0)=true:=beq_iff_eq.mpr c2
  have c2b1:(a0 != 0)=false:=bne_eq_false_iff_eq.mpr c2
  clear c2
  obtain rfl:=Option.some.inj H
  go_enter Tryz.func119,Tryz.ntmps119
  go_wp2
  go_ret
  exact⟨zG,zB⟩
 ·rw[if_neg c2] at H
  have c2b0:(a0 == 0)=false:=beq_eq_false_iff_ne.mpr c2
  have c2b1:(a0 != 0)=true:=bne_iff_ne.mpr c2
  obtain⟨y711,hy711⟩:∃ y_:List Int,y_=(([IntKind.u64.wrap (wrap64 (a0-1))]:List Int)):=⟨_,rfl⟩
  replace H:((yal.f k y711).bind fun t714=>(some t714))=some r:=by first|(rw[hy711];with_reducible exact H)|(have H2_:=(Option.bind_some _ _).symm.trans H;rw[hy711];with_reducible exact H2_)|(have H2_:=(Option.bind_some _ _).symm.trans H;with_reducible exact H2_)|with_reducible exact H|(rw[hy711];exact H)|exact H
  have Ny711:=yaa.mk hy711
  clear hy711
  replace H:=Option.bind_eq_some_iff.mp H
  obtain⟨t714,A30,H⟩:=H
  try dsimp only at H
  have A3:=yaa.mk A30
  clear A30
  obtain rfl:=Option.some.inj H
  go_enter Tryz.func119,Tryz.ntmps119
  go_wp2_with (first|((with_reducible refine yb1 (N:=8) rfl ?_);refine Kd.R_lit (Kd.int .u64) _ 63 ?hg (N:=8) ?hd (xs:=([IntKind.u64.wrap (wrap64 (a0-1))]:List Int)) (inner:=[.int .u64 (IntKind.u64.wrap (wrap64 (a0-1)))]) (ok:=fun _=>True) (okp:=fun _=>True) ?hr ?hp (fun _ hk=>hk) trivial (Below.refl _ _) (Nat.le_refl _) (by simp) ?_;(case hd=>rfl);(case hg=>rfl);(case hr=>first|(go_simp;done)|(go_simp;rfl));(case hp=>exact(Reps.one (show Kd.M (Kd.int .u64) _ _ _ (IntKind.u64.wrap (wrap64 (a0-1))) [.int .u64 (IntKind.u64.wrap (wrap64 (a0-1)))] from rfl) (Reps.none _ _)));intro v712 w4 ho5 hb hg_ hnew_;clear hg_ hnew_;(first|rw[← Ny711.out] at ho5|(simp only[Int.reduceToNat] at ho5;rw[← Ny711.out] at ho5));have n0_:=yaa.mk (Kd.R_lower ho5 (yaf zB));have n1_:=yaa.mk (yai zB hb);clear HB;have HO713:=n0_;have HB:=n1_;clear n0_ n1_;clear hb ho5;obtain⟨Ao6,co6,eo6⟩:=Kd.R_slice HO713.out;subst eo6)|((with_reducible refine yad (f:=74) rfl ?_);refine yak (some 9) rfl rfl Tryz.func74 (by kernel_rfl) rfl #[.slice Ao6 y711.length co6] rfl zE ?_;(with_reducible refine(yal.calls k _ _ y711 t714 _ ?side1 ?side2 A3.out).mono ?_);(case side1=>exact zC (Kd.R_reads' HO713.out).2.2);(case side2=>exact(Kd.R_reads' HO713.out).2.1);rintro e w' ⟨rfl,⟨nd,rfl⟩⟩;refine⟨_,rfl,?_⟩))
  go_ret
  exact⟨zG,zB⟩
mutual
def yan.l0:Nat→List Int→List Int→Int→Option (Int)
 | 0,_,_,_=>none
 | k+1,x0,x1,x5=>if x5<(x0.length:Int) then (yan.j1 k x0 x1 x5 (decide (x5<(x1.length:Int)))) else (yan.j1 k x0 x1 x5 false)
def yan.j1:Nat→List Int→List Int→Int→Bool→Option (Int)
 | 0,_,_,_,_=>none
 | k+1,x0,x1,x5,x15=>if x15=true then (if 0≤x5 then (if x5<(x0.length:Int) then (if x5<(x1.length:Int) then (if (rd x0 x5)<(rd x1 x5) then (some (-1)) else (if (rd x0 x5) > (rd x1 x5) then (some 1) else (yan.l0 k x0 x1 (wrap64 (x5+1))))) else (none)) else (none)) else (none)) else (if (x0.length:Int)<(x1.length:Int) then (some (-1)) else (if (x0.length:Int) > (x1.length:Int) then (some 1) else (some 0)))
end
def yan.f (k:Nat) (l0:List Int) (l1:List Int):Option (Int):=yan.l0 k l0 l1 0
theorem yan.mono_l:∀ k,(∀ y0 y1 y2,LeO (yan.l0 k y0 y1 y2) (yan.l0 (k+1) y0 y1 y2))∧(∀ y0 y1 y2 y3,LeO (yan.j1 k y0 y1 y2 y3) (yan.j1 (k+1) y0 y1 y2 y3))
 | 0=>⟨fun _ _ _ r h=>by simp [yan.l0] at h,fun _ _ _ _ r h=>by simp [yan.j1] at h⟩
 | k+1=>by
  obtain⟨ih0,ih1⟩:=yan.mono_l k
  refine⟨?_,?_⟩
  ·intro y0 y1 y2
   unfold yan.l0
   repeat' first
   | (with_reducible exact ih0 _ _ _)
   | (with_reducible exact ih1 _ _ _ _)
   | (with_reducible exact LeO.refl _)
   | (with_reducible exact LeO.none _)
   | (with_reducible refine LeO.ite ?_ ?_)
   | (with_reducible refine LeO.bind ?_ (fun _=>?_))
  ·intro y0 y1 y2 y3
   unfold yan.j1
   repeat' first
   | (with_reducible exact ih0 _ _ _)
   | (with_reducible exact ih1 _ _ _ _)
   | (with_reducible exact LeO.refl _)
   | (with_reducible exact LeO.none _)
   | (with_reducible refine LeO.ite ?_ ?_)
   | (with_reducible refine LeO.bind ?_ (fun _=>?_))
theorem yan.mono:∀ a0 a1 k,LeO (yan.f k a0 a1) (yan.f (k+1) a0 a1):=by
 intro a0 a1 k
 obtain⟨ih0,ih1⟩:=yan.mono_l k
 unfold yan.f
 repeat' first
   | (with_reducible exact ih0 _ _ _)
   | (with_reducible exact ih1 _ _ _ _)
   | (with_reducible exact LeO.refl _)
   | (with_reducible exact LeO.none _)
   | (with_reducible refine LeO.ite ?_ ?_)
   | (with_reducible refine LeO.bind ?_ (fun _=>?_))
theorem yan.calls (k:Nat) (A0:Option Addr) (c0:Nat) (l0:List Int) (A1:Option Addr) (c1:Nat) (l1:List Int) (r:Int) (w:World) (hr0:Kd.C (Kd.int .u8) w A0 l0.length l0) (hc0:l0.length≤c0) (hr1:Kd.C (Kd.int .u8) w A1 l1.length l1) (hc1:l1.length≤c1) (h:yan.f k l0 l1=some r) :
  Calls Tryz.prog 118 #[.slice A0 l0.length c0,.slice A1 l1.length c1] w fun e w'=>e=.returned (.int .i64 r)∧yap w w':=by
 have HR0:=yaa.mk hr0
 have HC0:=yaa.mk hc0
 clear hr0 hc0
 have HR1:=yaa.mk hr1
 have HC1:=yaa.mk hc1
 clear hr1 hc1
 have H:(yan.l0 k l0 l1 0)=some r:=h
 clear h
 have H':=yaa.mk H
 clear H
 go_enter Tryz.func118,Tryz.ntmps118
 go_wp2
 repeat (go_quiet (fail);try go_wp2)
 go_loopg [5] k (fun kq v5 w'=>∃ (x5_1:Int),v5=.int .i64 x5_1∧yaa (yan.l0 kq l0 l1 x5_1=some r)∧yaa (kq≤k)∧yap w w')
 case atStart=>exact⟨(0),zF,H',⟨Nat.le_refl _⟩,zD⟩
 case round =>
  clear H'
  try clear c1
  try clear p2
  obtain⟨x5_1,rfl,HA,HK1,⟨m1,rfl⟩⟩:=hrel
  cases gk with
  | zero=>exact absurd HA.out (by simp [yan.l0])
  | succ k1 =>
   have H:=HA.out
   clear HA
   simp only[yan.l0] at H
   have HC3:=yaa.mk H
   clear H
   go_upto_region 2 with (fail)
   repeat (go_quiet (fail);go_upto_region 2 with (fail))
   go_cut [15] (fun v15 wc=>∃ (kq:Nat) (x15_2:Bool),v15=.bool x15_2∧yaa (yan.j1 kq l0 l1 x5_1 x15_2=some r)∧yaa (kq≤k1)∧yap w wc)
   case first =>
    have H:=HC3.out
    clear HC3
    by_cases c4:x5_1<(l0.length:Int)
    ·rw[if_pos c4] at H
     have c4b0:=decide_eq_true c4
     clear c4
     (first|rw[c4b0]|(simp only[ybz,ycs];rw[c4b0])|skip)
     have H':=yaa.mk H
     clear H
     go_wp2
     repeat (go_quiet (fail);try go_wp2)
     go_meet
     case rel=>exact⟨_,(decide (x5_1<(l1.length:Int))),zF,H',⟨by have:=HK1.out;first|omega|exact Nat.le_refl _⟩,zD⟩
    ·rw[if_neg c4] at H
     have c4b0:=decide_eq_false c4
     clear c4
     (first|rw[c4b0]|(simp only[ybz,ycs];rw[c4b0])|skip)
     have H':=yaa.mk H
     clear H
     go_wp2
     repeat (go_quiet (fail);try go_wp2)
     go_meet
     case rel=>exact⟨_,(false),zF,H',⟨by have:=HK1.out;first|omega|exact Nat.le_refl _⟩,zD⟩
   case rest =>
    clear HC3
    try clear c1
    try clear p2
    try clear c4
    try clear c4b0
    try clear p2
    obtain⟨kq,x15_2,rfl,HA,HJ2,⟨mc2,rfl⟩⟩:=hcut
    cases kq with
    | zero=>exact absurd HA.out (by simp [yan.j1])
    | succ kj2 =>
     have H:=HA.out
     clear HA
     simp only[yan.j1] at H
     by_cases c5:x15_2=true
     ·subst c5
      have H1:(if 0≤x5_1 then (if x5_1<(l0.length:Int) then (if x5_1<(l1.length:Int) then (if (rd l0 x5_1)<(rd l1 x5_1) then (some (-1)) else (if (rd l0 x5_1) > (rd l1 x5_1) then (some 1) else (yan.l0 kj2 l0 l1 (wrap64 (x5_1+1))))) else (none)) else (none)) else (none))=some r:=by rw[if_pos rfl] at H;exact H
      clear H
      have H:=H1
      clear H1
      by_cases c6:0≤x5_1
      ·rw[if_pos c6] at H
       have c6b0:=decide_eq_true c6
       clear c6
       by_cases c7:x5_1<(l0.length:Int)
       ·rw[if_pos c7] at H
        have c7b0:=decide_eq_true c7
        clear c7
        by_cases c8:x5_1<(l1.length:Int)
        ·rw[if_pos c8] at H
         have c8b0:=decide_eq_true c8
         clear c8
         by_cases c9:(rd l0 x5_1)<(rd l1 x5_1)
         ·rw[if_pos c9] at H
          have c9b0:=decide_eq_true c9
          clear c9
          obtain rfl:=Option.some.inj H
          have p715:0≤(x5_1:Int):=of_decide_eq_true zA
          have q715:x5_1<(l0.length:Int):=of_decide_eq_true zA
          obtain⟨ad715,e715,hx715_0⟩:=Kd.at_int HR0.out x5_1 p715 q715
          cases e715
          replace p715:=eq_true p715
          replace q715:=eq_true q715
          have p716:0≤(x5_1:Int):=of_decide_eq_true zA
          have q716:x5_1<(l1.length:Int):=of_decide_eq_true zA
          obtain⟨ad716,e716,hx716_0⟩:=Kd.at_int HR1.out x5_1 p716 q716
          cases e716
          replace p716:=eq_true p716
          replace q716:=eq_true q716
          go_wp2
          repeat (go_quiet (fail);try go_wp2)
          go_ret
          exact⟨zF,zD⟩
         ·rw[if_neg c9] at H
          have c9b0:=decide_eq_false c9
          clear c9
          by_cases c10:(rd l0 x5_1) > (rd l1 x5_1)
          ·rw[if_pos c10] at H
           have c10b0:decide ((rd l1 x5_1)<(rd l0 x5_1))=true:=decide_eq_true c10
           clear c10
           obtain rfl:=Option.some.inj H
           have p715:0≤(x5_1:Int):=of_decide_eq_true zA
           have q715:x5_1<(l0.length:Int):=of_decide_eq_true zA
           obtain⟨ad715,e715,hx715_0⟩:=Kd.at_int HR0.out x5_1 p715 q715
           cases e715
           replace p715:=eq_true p715
           replace q715:=eq_true q715
           have p716:0≤(x5_1:Int):=of_decide_eq_true zA
           have q716:x5_1<(l1.length:Int):=of_decide_eq_true zA
           obtain⟨ad716,e716,hx716_0⟩:=Kd.at_int HR1.out x5_1 p716 q716
           cases e716
           replace p716:=eq_true p716
           replace q716:=eq_true q716
           have p717:0≤(x5_1:Int):=of_decide_eq_true zA
           have q717:x5_1<(l0.length:Int):=of_decide_eq_true zA
           obtain⟨ad717,e717,hx717_0⟩:=Kd.at_int HR0.out x5_1 p717 q717
           obtain rfl:ad715=ad717:=(by injection e717)
           replace p717:=eq_true p717
           replace q717:=eq_true q717
           have p718:0≤(x5_1:Int):=of_decide_eq_true zA
           have q718:x5_1<(l1.length:Int):=of_decide_eq_true zA
           obtain⟨ad718,e718,hx718_0⟩:=Kd.at_int HR1.out x5_1 p718 q718
           obtain rfl:ad716=ad718:=(by injection e718)
           replace p718:=eq_true p718
           replace q718:=eq_true q718
           go_wp2
           repeat (go_quiet (fail);try go_wp2)
           go_ret
           exact⟨zF,zD⟩
          ·rw[if_neg c10] at H
           have c10b0:decide ((rd l1 x5_1)<(rd l0 x5_1))=false:=decide_eq_false c10
           clear c10
           have H':=yaa.mk H
           clear H
           have p715:0≤(x5_1:Int):=of_decide_eq_true zA
           have q715:x5_1<(l0.length:Int):=of_decide_eq_true zA
           obtain⟨ad715,e715,hx715_0⟩:=Kd.at_int HR0.out x5_1 p715 q715
           cases e715
           replace p715:=eq_true p715
           replace q715:=eq_true q715
           have p716:0≤(x5_1:Int):=of_decide_eq_true zA
           have q716:x5_1<(l1.length:Int):=of_decide_eq_true zA
           obtain⟨ad716,e716,hx716_0⟩:=Kd.at_int HR1.out x5_1 p716 q716
           cases e716
           replace p716:=eq_true p716
           replace q716:=eq_true q716
           have p717:0≤(x5_1:Int):=of_decide_eq_true zA
           have q717:x5_1<(l0.length:Int):=of_decide_eq_true zA
           obtain⟨ad717,e717,hx717_0⟩:=Kd.at_int HR0.out x5_1 p717 q717
           obtain rfl:ad715=ad717:=(by injection e717)
           replace p717:=eq_true p717
           replace q717:=eq_true q717
           have p718:0≤(x5_1:Int):=of_decide_eq_true zA
           have q718:x5_1<(l1.length:Int):=of_decide_eq_true zA
           obtain⟨ad718,e718,hx718_0⟩:=Kd.at_int HR1.out x5_1 p718 q718
           obtain rfl:ad716=ad718:=(by injection e718)
           replace p718:=eq_true p718
           replace q718:=eq_true q718
           go_wp2
           repeat (go_quiet (fail);try go_wp2)
           go_roundg kj2
           case measure=>have:=HK1.out;have:=HJ2.out;omega
           case rel=>exact⟨(wrap64 (x5_1+1)),zF,H',⟨by have:=HK1.out;have:=HJ2.out;omega⟩,zD⟩
        ·rw[if_neg c8] at H
         exact absurd H (by simp)
       ·rw[if_neg c7] at H
        exact absurd H (by simp)
      ·rw[if_neg c6] at H
       exact absurd H (by simp)
     ·replace c5:=Bool.eq_false_iff.mpr c5
      subst c5
      have H1:(if (l0.length:Int)<(l1.length:Int) then (some (-1)) else (if (l0.length:Int) > (l1.length:Int) then (some 1) else (some 0)))=some r:=by rw[if_neg (show ¬ (false=true) by decide)] at H;exact H
      clear H
      have H:=H1
      clear H1
      by_cases c11:(l0.length:Int)<(l1.length:Int)
      ·rw[if_pos c11] at H
       have c11b0:=decide_eq_true c11
       have c11b1:decide (l0.length<l1.length)=true:=decide_eq_true (Int.ofNat_lt.mp c11)
       clear c11
       obtain rfl:=Option.some.inj H
       go_wp2
       repeat (go_quiet (fail);try go_wp2)
       go_ret
       exact⟨zF,zD⟩
      ·rw[if_neg c11] at H
       have c11b0:=decide_eq_false c11
       have c11b1:decide (l0.length<l1.length)=false:=decide_eq_false (fun h=>c11 (Int.ofNat_lt.mpr h))
       clear c11
       by_cases c12:(l0.length:Int) > (l1.length:Int)
       ·rw[if_pos c12] at H
        have c12b0:decide ((l1.length:Int)<(l0.length:Int))=true:=decide_eq_true c12
        have c12b1:decide (l1.length<l0.length)=true:=decide_eq_true (Int.ofNat_lt.mp c12)
        clear c12
        obtain rfl:=Option.some.inj H
        go_wp2
        repeat (go_quiet (fail);try go_wp2)
        go_ret
        exact⟨zF,zD⟩
       ·rw[if_neg c12] at H
        have c12b0:decide ((l1.length:Int)<(l0.length:Int))=false:=decide_eq_false c12
        have c12b1:decide (l1.length<l0.length)=false:=decide_eq_false (fun h=>c12 (Int.ofNat_lt.mpr h))
        clear c12
        obtain rfl:=Option.some.inj H
        go_wp2
        repeat (go_quiet (fail);try go_wp2)
        go_ret
        exact⟨zF,zD⟩
def yfa.l0:Nat→List (List Int)→List Int→Int→Int→Option (Int)
 | 0,_,_,_,_=>none
 | k+1,x0,x1,x5,x6=>if x5<x6 then (if 0≤(wrap64 (Int.tdiv (wrap64 (x5+x6)) 2)) then (if (wrap64 (Int.tdiv (wrap64 (x5+x6)) 2))<(x0.length:Int) then ((yan.f k (ydn x0 (wrap64 (Int.tdiv (wrap64 (x5+x6)) 2))) x1).bind fun t720=>(if t720<0 then (yfa.l0 k x0 x1 (wrap64 ((wrap64 (Int.tdiv (wrap64 (x5+x6)) 2))+1)) x6) else (yfa.l0 k x0 x1 x5 (wrap64 (Int.tdiv (wrap64 (x5+x6)) 2))))) else (none)) else (none)) else (some x5)
def yfa.f (k:Nat) (l0:List (List Int)) (l1:List Int):Option (Int):=yfa.l0 k l0 l1 0 (l0.length:Int)
end Go.Proofs.YteeikgjjgfdjgaaGreat.PK
end
