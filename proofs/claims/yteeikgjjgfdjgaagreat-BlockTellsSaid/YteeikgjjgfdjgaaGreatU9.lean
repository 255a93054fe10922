/-
  Parts of the proof: E9.
-/
import Derived.Test.YteeikgjjgfdjgaaGreatU8
set_option maxHeartbeats 8000000
set_option maxRecDepth 100000
section
namespace Go.Proofs.YteeikgjjgfdjgaaGreat.PK
open Go.RowKit YteeikgjjgfdjgaaGreatW.PrintWords YteeikgjjgfdjgaaGreatW.PrintLast YteeikgjjgfdjgaaGreatW.PrintMore
attribute [local go_sem] yco ycp yc5 yc4 yck ycl ycs yct
set_option linter.unusedVariables false
set_option linter.unusedSimpArgs false
def ybg.j0:Nat→Int→Bool→Bool→Bool→Int→List Int→Option (Int)
 | 0,_,_,_,_,_,_=>none
 | k+1,x0,x1,x12,x611000,x611001,x611002=>if x12=true then (some 1) else (if x611000=true then (if x1=true then (if x611001=0 then (if (x611002.length:Int) > 0 then (some 50) else (some 0)) else (some 50)) else (some 51)) else (if x0≤6 then (if (x611002.length:Int) > 0 then (some 50) else ((ycd.f x0).bind fun t611=>(if x611001<t611 then (some 52) else ((ycf.f x0).bind fun t612=>(if x611001 > t612 then (some 52) else (some 0)))))) else (if x611001=0 then (if (x611002.length:Int) > 200 then (some 4) else (if x0=7 then ((ybj.f k x611002).bind fun t613=>(if t613=true then (some 5) else (some 0))) else (some 0))) else (some 50))))
def ybg.f (k:Nat) (a0:Int) (a1:Bool) (a2_0:Bool) (a2_1:Int) (l2_2:List Int):Option (Int):=if a0<1 then (ybg.j0 k a0 a1 true a2_0 a2_1 l2_2) else (ybg.j0 k a0 a1 (decide (a0 > 8)) a2_0 a2_1 l2_2)
theorem ybg.calls (k:Nat) (a0:Int) (a1:Bool) (a2_0:Bool) (a2_1:Int) (A2_2:Option Addr) (c2_2:Nat) (l2_2:List Int) (r:Int) (w:World) (hr2_2:Kd.C (Kd.int .u8) w A2_2 l2_2.length l2_2) (hc2_2:l2_2.length≤c2_2) (h:ybg.f k a0 a1 a2_0 a2_1 l2_2=some r) :
  Calls Tryz.prog 56 #[.int .i64 a0,.bool a1,.agg #[.bool a2_0,.int .i64 a2_1,.slice A2_2 l2_2.length c2_2]] w fun e w'=>e=.returned (.int .i64 r)∧Below w.heap.size w w':=by
 have hu53:=Tryz.underlying53
 have HR2_2:=yaa.mk hr2_2
 have HC2_2:=yaa.mk hc2_2
 clear hr2_2 hc2_2
 have HB:=yaa.mk (Below.refl w.heap.size w)
 have H:(if a0<1 then (ybg.j0 k a0 a1 true a2_0 a2_1 l2_2) else (ybg.j0 k a0 a1 (decide (a0 > 8)) a2_0 a2_1 l2_2))=some r:=h
 clear h
 have HC4:=yaa.mk H
 clear H
 go_enter Tryz.func56,Tryz.ntmps56
 go_upto_region 1 with (first|((with_reducible refine yb1 (N:=5) rfl ?_);(try (refine yh7 (by rfl) ?_;dsimp only));refine yd4 ?hg (N:=5) ?hd (cs:=#[.bool a2_0,.int .i64 a2_1,.slice A2_2 l2_2.length c2_2]) (t:=53) ?hr ?_;(case hd=>rfl);(case hg=>rfl);(case hr=>first|(go_simp;done)|(go_simp;rfl));intro gb610 hg w5 hbox hb;have n0_:=yaa.mk (yai zB hb);have n1_:=yaa.mk (hbox);have n2_:=yaa.mk ((by rw[hg];exact(yac zB):w.heap.size≤gb610));have n3_:=yaa.mk ((by rw[hg];exact(yac zB):w.heap.size≤gb610));clear HB;have HB:=n0_;have BK610:=n1_;have GW610:=n2_;have GE610:=n3_;clear n0_ n1_ n2_ n3_;clear hb hbox hg))
 repeat (go_quiet (first|((with_reducible refine yb1 (N:=5) rfl ?_);(try (refine yh7 (by rfl) ?_;dsimp only));refine yd4 ?hg (N:=5) ?hd (cs:=#[.bool a2_0,.int .i64 a2_1,.slice A2_2 l2_2.length c2_2]) (t:=53) ?hr ?_;(case hd=>rfl);(case hg=>rfl);(case hr=>first|(go_simp;done)|(go_simp;rfl));intro gb610 hg w5 hbox hb;have n0_:=yaa.mk (yai zB hb);have n1_:=yaa.mk (hbox);have n2_:=yaa.mk ((by rw[hg];exact(yac zB):w.heap.size≤gb610));have n3_:=yaa.mk ((by rw[hg];exact(yac zB):w.heap.size≤gb610));clear HB;have HB:=n0_;have BK610:=n1_;have GW610:=n2_;have GE610:=n3_;clear n0_ n1_ n2_ n3_;clear hb hbox hg));go_upto_region 1 with (first|((with_reducible refine yb1 (N:=5) rfl ?_);(try (refine yh7 (by rfl) ?_;dsimp only));refine yd4 ?hg (N:=5) ?hd (cs:=#[.bool a2_0,.int .i64 a2_1,.slice A2_2 l2_2.length c2_2]) (t:=53) ?hr ?_;(case hd=>rfl);(case hg=>rfl);(case hr=>first|(go_simp;done)|(go_simp;rfl));intro gb610 hg w5 hbox hb;have n0_:=yaa.mk (yai zB hb);have n1_:=yaa.mk (hbox);have n2_:=yaa.mk ((by rw[hg];exact(yac zB):w.heap.size≤gb610));have n3_:=yaa.mk ((by rw[hg];exact(yac zB):w.heap.size≤gb610));clear HB;have HB:=n0_;have BK610:=n1_;have GW610:=n2_;have GE610:=n3_;clear n0_ n1_ n2_ n3_;clear hb hbox hg)))
 (try simp only[Act.put,List.setIfInBounds_toArray,List.set_cons_zero,List.set_cons_succ])
 go_cut [12] (fun v12 wc=>∃ (kq:Nat) (x12_3:Bool),v12=.bool x12_3∧yaa (ybg.j0 kq a0 a1 x12_3 a2_0 a2_1 l2_2=some r)∧yaa (kq≤k)∧yaa (wc.heap[gb610]?=some (.cells #[.bool a2_0,.int .i64 a2_1,(.slice A2_2 l2_2.length c2_2)] 53 (0,0)))∧yaa (Below w.heap.size w wc))
 case first =>
  have H:=HC4.out
  clear HC4
  by_cases c6:a0<1
  ·rw[if_pos c6] at H
   have c6b0:=decide_eq_true c6
   clear c6
   (first|rw[c6b0]|(simp only[ya4,yba];rw[c6b0])|skip)
   have H':=yaa.mk H
   clear H
   go_wp2
   repeat (go_quiet (fail);try go_wp2)
   go_meet
   case rel=>exact⟨_,(true),zF,H',⟨by first|omega|exact Nat.le_refl _⟩,⟨by (with_reducible repeat (first|refine ybs ?_ _|refine yb2 ?_|refine ybr ?_ _));exact BK610.out⟩,⟨(have GE_:=GE610;zT)⟩⟩
  ·rw[if_neg c6] at H
   have c6b0:=decide_eq_false c6
   clear c6
   (first|rw[c6b0]|(simp only[ya4,yba];rw[c6b0])|skip)
   have H':=yaa.mk H
   clear H
   go_wp2
   repeat (go_quiet (fail);try go_wp2)
   go_meet
   case rel=>exact⟨_,(decide (a0 > 8)),zF,H',⟨by first|omega|exact Nat.le_refl _⟩,⟨by (with_reducible repeat (first|refine ybs ?_ _|refine yb2 ?_|refine ybr ?_ _));exact BK610.out⟩,⟨(have GE_:=GE610;zT)⟩⟩
 case rest =>
  clear HC4
  try clear c2
  try clear p2
  try clear c5
  try clear c6
  try clear c6b0
  obtain⟨kq,x12_3,rfl,HA,HJ3,BK610,HB⟩:=hcut
  cases kq with
  | zero=>exact absurd HA.out (by simp [ybg.j0])
  | succ kj3 =>
   have H:=HA.out
   clear HA
   simp only[ybg.j0] at H
   by_cases c7:x12_3=true
   ·subst c7
    have H1:(some 1)=some r:=by rw[if_pos rfl] at H;exact H
    clear H
    have H:=H1
    clear H1
    obtain rfl:=Option.some.inj H
    go_wp2
    repeat (go_quiet (fail);try go_wp2)
    go_ret
    exact⟨zG,(have GE_:=GE610;zT)⟩
   ·replace c7:=Bool.eq_false_iff.mpr c7
    subst c7
    have H1:(if a2_0=true then (if a1=true then (if a2_1=0 then (if (l2_2.length:Int) > 0 then (some 50) else (some 0)) else (some 50)) else (some 51)) else (if a0≤6 then (if (l2_2.length:Int) > 0 then (some 50) else ((ycd.f a0).bind fun t611=>(if a2_1<t611 then (some 52) else ((ycf.f a0).bind fun t612=>(if a2_1 > t612 then (some 52) else (some 0)))))) else (if a2_1=0 then (if (l2_2.length:Int) > 200 then (some 4) else (if a0=7 then ((ybj.f kj3 l2_2).bind fun t613=>(if t613=true then (some 5) else (some 0))) else (some 0))) else (some 50))))=some r:=by rw[if_neg (show ¬ (false=true) by decide)] at H;exact H
    clear H
    have H:=H1
    clear H1
    by_cases c8:a2_0=true
    ·subst c8
     have H1:(if a1=true then (if a2_1=0 then (if (l2_2.length:Int) > 0 then (some 50) else (some 0)) else (some 50)) else (some 51))=some r:=by rw[if_pos rfl] at H;exact H
     clear H
     have H:=H1
     clear H1
     by_cases c9:a1=true
     ·subst c9
      have H1:(if a2_1=0 then (if (l2_2.length:Int) > 0 then (some 50) else (some 0)) else (some 50))=some r:=by rw[if_pos rfl] at H;exact H
      clear H
      have H:=H1
      clear H1
      by_cases c10:a2_1=0
      ·rw[if_pos c10] at H
       have c10b0:(a2_1 == 0)=true:=beq_iff_eq.mpr c10
       have c10b1:(a2_1 != 0)=false:=bne_eq_false_iff_eq.mpr c10
       clear c10
       by_cases c11:(l2_2.length:Int) > 0
       ·rw[if_pos c11] at H
        have c11b0:decide (0<(l2_2.length:Int))=true:=decide_eq_true c11
        have c11b1:decide (0<l2_2.length)=true:=decide_eq_true (by omega)
        clear c11
        obtain rfl:=Option.some.inj H
        have hcz12_0:wc.cell? ⟨gb610,0,none⟩=some (.bool true):=(yan BK610.out 0).trans rfl
        have hcz12_1:wc.cell? ⟨gb610,1,none⟩=some (.int .i64 a2_1):=(yan BK610.out 1).trans rfl
        have hcz12_2:wc.cell? ⟨gb610,2,none⟩=some (.slice A2_2 l2_2.length c2_2):=(yan BK610.out 2).trans rfl
        have hfz12_0:=yal BK610.out 0
        have hfz12_1:=yal BK610.out 1
        have hfz12_2:=yal BK610.out 2
        go_wp2
        repeat (go_quiet (fail);try go_wp2)
        go_ret
        exact⟨zG,(have GE_:=GE610;zT)⟩
       ·rw[if_neg c11] at H
        have c11b0:decide (0<(l2_2.length:Int))=false:=decide_eq_false c11
        have c11b1:decide (0<l2_2.length)=false:=decide_eq_false (by omega)
        clear c11
        obtain rfl:=Option.some.inj H
        have hcz13_0:wc.cell? ⟨gb610,0,none⟩=some (.bool true):=(yan BK610.out 0).trans rfl
        have hcz13_1:wc.cell? ⟨gb610,1,none⟩=some (.int .i64 a2_1):=(yan BK610.out 1).trans rfl
        have hcz13_2:wc.cell? ⟨gb610,2,none⟩=some (.slice A2_2 l2_2.length c2_2):=(yan BK610.out 2).trans rfl
        have hfz13_0:=yal BK610.out 0
        have hfz13_1:=yal BK610.out 1
        have hfz13_2:=yal BK610.out 2
        go_wp2
        repeat (go_quiet (fail);try go_wp2)
        go_ret
        exact⟨zG,(have GE_:=GE610;zT)⟩
      ·rw[if_neg c10] at H
       have c10b0:(a2_1 == 0)=false:=beq_eq_false_iff_ne.mpr c10
       have c10b1:(a2_1 != 0)=true:=bne_iff_ne.mpr c10
       obtain rfl:=Option.some.inj H
       have hcz14_0:wc.cell? ⟨gb610,0,none⟩=some (.bool true):=(yan BK610.out 0).trans rfl
       have hcz14_1:wc.cell? ⟨gb610,1,none⟩=some (.int .i64 a2_1):=(yan BK610.out 1).trans rfl
       have hcz14_2:wc.cell? ⟨gb610,2,none⟩=some (.slice A2_2 l2_2.length c2_2):=(yan BK610.out 2).trans rfl
       have hfz14_0:=yal BK610.out 0
       have hfz14_1:=yal BK610.out 1
       have hfz14_2:=yal BK610.out 2
       go_wp2
       repeat (go_quiet (fail);try go_wp2)
       go_ret
       exact⟨zG,(have GE_:=GE610;zT)⟩
     ·replace c9:=Bool.eq_false_iff.mpr c9
      subst c9
      have H1:(some 51)=some r:=by rw[if_neg (show ¬ (false=true) by decide)] at H;exact H
      clear H
      have H:=H1
      clear H1
      obtain rfl:=Option.some.inj H
      have hcz15_0:wc.cell? ⟨gb610,0,none⟩=some (.bool true):=(yan BK610.out 0).trans rfl
      have hcz15_1:wc.cell? ⟨gb610,1,none⟩=some (.int .i64 a2_1):=(yan BK610.out 1).trans rfl
      have hcz15_2:wc.cell? ⟨gb610,2,none⟩=some (.slice A2_2 l2_2.length c2_2):=(yan BK610.out 2).trans rfl
      have hfz15_0:=yal BK610.out 0
      have hfz15_1:=yal BK610.out 1
      have hfz15_2:=yal BK610.out 2
      go_wp2
      repeat (go_quiet (fail);try go_wp2)
      go_ret
      exact⟨zG,(have GE_:=GE610;zT)⟩
    ·replace c8:=Bool.eq_false_iff.mpr c8
     subst c8
     have H1:(if a0≤6 then (if (l2_2.length:Int) > 0 then (some 50) else ((ycd.f a0).bind fun t611=>(if a2_1<t611 then (some 52) else ((ycf.f a0).bind fun t612=>(if a2_1 > t612 then (some 52) else (some 0)))))) else (if a2_1=0 then (if (l2_2.length:Int) > 200 then (some 4) else (if a0=7 then ((ybj.f kj3 l2_2).bind fun t613=>(if t613=true then (some 5) else (some 0))) else (some 0))) else (some 50)))=some r:=by rw[if_neg (show ¬ (false=true) by decide)] at H;exact H
     clear H
     have H:=H1
     clear H1
     by_cases c16:a0≤6
     ·rw[if_pos c16] at H
      have c16b0:=decide_eq_true c16
      clear c16
      by_cases c17:(l2_2.length:Int) > 0
      ·rw[if_pos c17] at H
       have c17b0:decide (0<(l2_2.length:Int))=true:=decide_eq_true c17
       have c17b1:decide (0<l2_2.length)=true:=decide_eq_true (by omega)
       clear c17
       obtain rfl:=Option.some.inj H
       have hcz18_0:wc.cell? ⟨gb610,0,none⟩=some (.bool false):=(yan BK610.out 0).trans rfl
       have hcz18_1:wc.cell? ⟨gb610,1,none⟩=some (.int .i64 a2_1):=(yan BK610.out 1).trans rfl
       have hcz18_2:wc.cell? ⟨gb610,2,none⟩=some (.slice A2_2 l2_2.length c2_2):=(yan BK610.out 2).trans rfl
       have hfz18_0:=yal BK610.out 0
       have hfz18_1:=yal BK610.out 1
       have hfz18_2:=yal BK610.out 2
       go_wp2
       repeat (go_quiet (fail);try go_wp2)
       go_ret
       exact⟨zG,(have GE_:=GE610;zT)⟩
      ·rw[if_neg c17] at H
       have c17b0:decide (0<(l2_2.length:Int))=false:=decide_eq_false c17
       have c17b1:decide (0<l2_2.length)=false:=decide_eq_false (by omega)
       clear c17
       replace H:=Option.bind_eq_some_iff.mp H
       obtain⟨t611,A190,H⟩:=H
       try dsimp only at H
       have A19:=yaa.mk A190
       clear A190
       by_cases c20:a2_1<t611
       ·rw[if_pos c20] at H
        have c20b0:=decide_eq_true c20
        clear c20
        obtain rfl:=Option.some.inj H
        have hcz21_0:wc.cell? ⟨gb610,0,none⟩=some (.bool false):=(yan BK610.out 0).trans rfl
        have hcz21_1:wc.cell? ⟨gb610,1,none⟩=some (.int .i64 a2_1):=(yan BK610.out 1).trans rfl
        have hcz21_2:wc.cell? ⟨gb610,2,none⟩=some (.slice A2_2 l2_2.length c2_2):=(yan BK610.out 2).trans rfl
        have hfz21_0:=yal BK610.out 0
        have hfz21_1:=yal BK610.out 1
        have hfz21_2:=yal BK610.out 2
        go_wp2_with (first|(go_at_call 91;(with_reducible refine(ycd.calls a0 t611 _ A19.out).mono ?_);rintro e w' ⟨rfl,⟨nd,rfl⟩⟩;(try exact zQ)))
        repeat (go_quiet (first|(go_at_call 91;(with_reducible refine(ycd.calls a0 t611 _ A19.out).mono ?_);rintro e w' ⟨rfl,⟨nd,rfl⟩⟩;(try exact zQ)));try go_wp2_with (first|(go_at_call 91;(with_reducible refine(ycd.calls a0 t611 _ A19.out).mono ?_);rintro e w' ⟨rfl,⟨nd,rfl⟩⟩;(try exact zQ))))
        go_ret
        exact⟨zG,(have GE_:=GE610;zT)⟩
       ·rw[if_neg c20] at H
        have c20b0:=decide_eq_false c20
        clear c20
        replace H:=Option.bind_eq_some_iff.mp H
        obtain⟨t612,A220,H⟩:=H
        try dsimp only at H
        have A22:=yaa.mk A220
        clear A220
        by_cases c23:a2_1 > t612
        ·rw[if_pos c23] at H
         have c23b0:decide (t612<a2_1)=true:=decide_eq_true c23
         clear c23
         obtain rfl:=Option.some.inj H
         have hcz24_0:wc.cell? ⟨gb610,0,none⟩=some (.bool false):=(yan BK610.out 0).trans rfl
         have hcz24_1:wc.cell? ⟨gb610,1,none⟩=some (.int .i64 a2_1):=(yan BK610.out 1).trans rfl
         have hcz24_2:wc.cell? ⟨gb610,2,none⟩=some (.slice A2_2 l2_2.length c2_2):=(yan BK610.out 2).trans rfl
         have hfz24_0:=yal BK610.out 0
         have hfz24_1:=yal BK610.out 1
         have hfz24_2:=yal BK610.out 2
         go_wp2_with (first|(go_at_call 91;(with_reducible refine(ycd.calls a0 t611 _ A19.out).mono ?_);rintro e w' ⟨rfl,⟨nd,rfl⟩⟩;(try exact zQ))|(go_at_call 92;(with_reducible refine(ycf.calls a0 t612 _ A22.out).mono ?_);rintro e w' ⟨rfl,⟨nd,rfl⟩⟩;(try exact zQ)))
         repeat (go_quiet (first|(go_at_call 91;(with_reducible refine(ycd.calls a0 t611 _ A19.out).mono ?_);rintro e w' ⟨rfl,⟨nd,rfl⟩⟩;(try exact zQ))|(go_at_call 92;(with_reducible refine(ycf.calls a0 t612 _ A22.out).mono ?_);rintro e w' ⟨rfl,⟨nd,rfl⟩⟩;(try exact zQ)));try go_wp2_with (first|(go_at_call 91;(with_reducible refine(ycd.calls a0 t611 _ A19.out).mono ?_);rintro e w' ⟨rfl,⟨nd,rfl⟩⟩;(try exact zQ))|(go_at_call 92;(with_reducible refine(ycf.calls a0 t612 _ A22.out).mono ?_);rintro e w' ⟨rfl,⟨nd,rfl⟩⟩;(try exact zQ))))
         go_ret
         exact⟨zG,(have GE_:=GE610;zT)⟩
        ·rw[if_neg c23] at H
         have c23b0:decide (t612<a2_1)=false:=decide_eq_false c23
         clear c23
         obtain rfl:=Option.some.inj H
         have hcz25_0:wc.cell? ⟨gb610,0,none⟩=some (.bool false):=(yan BK610.out 0).trans rfl
         have hcz25_1:wc.cell? ⟨gb610,1,none⟩=some (.int .i64 a2_1):=(yan BK610.out 1).trans rfl
         have hcz25_2:wc.cell? ⟨gb610,2,none⟩=some (.slice A2_2 l2_2.length c2_2):=(yan BK610.out 2).trans rfl
         have hfz25_0:=yal BK610.out 0
         have hfz25_1:=yal BK610.out 1
         have hfz25_2:=yal BK610.out 2
         go_wp2_with (first|(go_at_call 91;(with_reducible refine(ycd.calls a0 t611 _ A19.out).mono ?_);rintro e w' ⟨rfl,⟨nd,rfl⟩⟩;(try exact zQ))|(go_at_call 92;(with_reducible refine(ycf.calls a0 t612 _ A22.out).mono ?_);rintro e w' ⟨rfl,⟨nd,rfl⟩⟩;(try exact zQ)))
         repeat (go_quiet (first|(go_at_call 91;(with_reducible refine(ycd.calls a0 t611 _ A19.out).mono ?_);rintro e w' ⟨rfl,⟨nd,rfl⟩⟩;(try exact zQ))|(go_at_call 92;(with_reducible refine(ycf.calls a0 t612 _ A22.out).mono ?_);rintro e w' ⟨rfl,⟨nd,rfl⟩⟩;(try exact zQ)));try go_wp2_with (first|(go_at_call 91;(with_reducible refine(ycd.calls a0 t611 _ A19.out).mono ?_);rintro e w' ⟨rfl,⟨nd,rfl⟩⟩;(try exact zQ))|(go_at_call 92;(with_reducible refine(ycf.calls a0 t612 _ A22.out).mono ?_);rintro e w' ⟨rfl,⟨nd,rfl⟩⟩;(try exact zQ))))
         go_ret
         exact⟨zG,(have GE_:=GE610;zT)⟩
     ·rw[if_neg c16] at H
      have c16b0:=decide_eq_false c16
      clear c16
      by_cases c26:a2_1=0
      ·rw[if_pos c26] at H
       have c26b0:(a2_1 == 0)=true:=beq_iff_eq.mpr c26
       have c26b1:(a2_1 != 0)=false:=bne_eq_false_iff_eq.mpr c26
       clear c26
       by_cases c27:(l2_2.length:Int) > 200
       ·rw[if_pos c27] at H
        have c27b0:decide (200<(l2_2.length:Int))=true:=decide_eq_true c27
        have c27b1:decide (200<l2_2.length)=true:=decide_eq_true (by omega)
        clear c27
        obtain rfl:=Option.some.inj H
        have hcz28_0:wc.cell? ⟨gb610,0,none⟩=some (.bool false):=(yan BK610.out 0).trans rfl
        have hcz28_1:wc.cell? ⟨gb610,1,none⟩=some (.int .i64 a2_1):=(yan BK610.out 1).trans rfl
        have hcz28_2:wc.cell? ⟨gb610,2,none⟩=some (.slice A2_2 l2_2.length c2_2):=(yan BK610.out 2).trans rfl
        have hfz28_0:=yal BK610.out 0
        have hfz28_1:=yal BK610.out 1
        have hfz28_2:=yal BK610.out 2
        go_wp2
        repeat (go_quiet (fail);try go_wp2)
        go_ret
        exact⟨zG,(have GE_:=GE610;zT)⟩
       ·rw[if_neg c27] at H
        have c27b0:decide (200<(l2_2.length:Int))=false:=decide_eq_false c27
        have c27b1:decide (200<l2_2.length)=false:=decide_eq_false (by omega)
        clear c27
        by_cases c29:a0=7
        ·rw[if_pos c29] at H
         have c29b0:(a0 == 7)=true:=beq_iff_eq.mpr c29
         have c29b1:(a0 != 7)=false:=bne_eq_false_iff_eq.mpr c29
         clear c29
         replace H:=Option.bind_eq_some_iff.mp H
         obtain⟨t613,A300,H⟩:=H
         try dsimp only at H
         have A30:=yaa.mk A300
         clear A300
         by_cases c31:t613=true
         ·subst c31
          have H1:(some 5)=some r:=by rw[if_pos rfl] at H;exact H
          clear H
          have H:=H1
          clear H1
          obtain rfl:=Option.some.inj H
          have hcz32_0:wc.cell? ⟨gb610,0,none⟩=some (.bool false):=(yan BK610.out 0).trans rfl
          have hcz32_1:wc.cell? ⟨gb610,1,none⟩=some (.int .i64 a2_1):=(yan BK610.out 1).trans rfl
          have hcz32_2:wc.cell? ⟨gb610,2,none⟩=some (.slice A2_2 l2_2.length c2_2):=(yan BK610.out 2).trans rfl
          have hfz32_0:=yal BK610.out 0
          have hfz32_1:=yal BK610.out 1
          have hfz32_2:=yal BK610.out 2
          go_wp2_with (first|(go_at_call 93;(with_reducible refine(ybj.calls kj3 _ _ l2_2 true _ ?side1 ?side2 A30.out).mono ?_);(case side1=>exact zC (Kd.C_below HR2_2.out HB.out));(case side2=>exact HC2_2.out);rintro e w' ⟨rfl,⟨nd,rfl⟩⟩;(try exact zQ)))
          repeat (go_quiet (first|(go_at_call 93;(with_reducible refine(ybj.calls kj3 _ _ l2_2 true _ ?side1 ?side2 A30.out).mono ?_);(case side1=>exact zC (Kd.C_below HR2_2.out HB.out));(case side2=>exact HC2_2.out);rintro e w' ⟨rfl,⟨nd,rfl⟩⟩;(try exact zQ)));try go_wp2_with (first|(go_at_call 93;(with_reducible refine(ybj.calls kj3 _ _ l2_2 true _ ?side1 ?side2 A30.out).mono ?_);(case side1=>exact zC (Kd.C_below HR2_2.out HB.out));(case side2=>exact HC2_2.out);rintro e w' ⟨rfl,⟨nd,rfl⟩⟩;(try exact zQ))))
          go_ret
          exact⟨zG,(have GE_:=GE610;zT)⟩
         ·replace c31:=Bool.eq_false_iff.mpr c31
          subst c31
          have H1:(some 0)=some r:=by rw[if_neg (show ¬ (false=true) by decide)] at H;exact H
          clear H
          have H:=H1
          clear H1
          obtain rfl:=Option.some.inj H
          have hcz33_0:wc.cell? ⟨gb610,0,none⟩=some (.bool false):=(yan BK610.out 0).trans rfl
          have hcz33_1:wc.cell? ⟨gb610,1,none⟩=some (.int .i64 a2_1):=(yan BK610.out 1).trans rfl
          have hcz33_2:wc.cell? ⟨gb610,2,none⟩=some (.slice A2_2 l2_2.length c2_2):=(yan BK610.out 2).trans rfl
          have hfz33_0:=yal BK610.out 0
          have hfz33_1:=yal BK610.out 1
          have hfz33_2:=yal BK610.out 2
          go_wp2_with (first|(go_at_call 93;(with_reducible refine(ybj.calls kj3 _ _ l2_2 false _ ?side1 ?side2 A30.out).mono ?_);(case side1=>exact zC (Kd.C_below HR2_2.out HB.out));(case side2=>exact HC2_2.out);rintro e w' ⟨rfl,⟨nd,rfl⟩⟩;(try exact zQ)))
          repeat (go_quiet (first|(go_at_call 93;(with_reducible refine(ybj.calls kj3 _ _ l2_2 false _ ?side1 ?side2 A30.out).mono ?_);(case side1=>exact zC (Kd.C_below HR2_2.out HB.out));(case side2=>exact HC2_2.out);rintro e w' ⟨rfl,⟨nd,rfl⟩⟩;(try exact zQ)));try go_wp2_with (first|(go_at_call 93;(with_reducible refine(ybj.calls kj3 _ _ l2_2 false _ ?side1 ?side2 A30.out).mono ?_);(case side1=>exact zC (Kd.C_below HR2_2.out HB.out));(case side2=>exact HC2_2.out);rintro e w' ⟨rfl,⟨nd,rfl⟩⟩;(try exact zQ))))
          go_ret
          exact⟨zG,(have GE_:=GE610;zT)⟩
        ·rw[if_neg c29] at H
         have c29b0:(a0 == 7)=false:=beq_eq_false_iff_ne.mpr c29
         have c29b1:(a0 != 7)=true:=bne_iff_ne.mpr c29
         obtain rfl:=Option.some.inj H
         have hcz34_0:wc.cell? ⟨gb610,0,none⟩=some (.bool false):=(yan BK610.out 0).trans rfl
         have hcz34_1:wc.cell? ⟨gb610,1,none⟩=some (.int .i64 a2_1):=(yan BK610.out 1).trans rfl
         have hcz34_2:wc.cell? ⟨gb610,2,none⟩=some (.slice A2_2 l2_2.length c2_2):=(yan BK610.out 2).trans rfl
         have hfz34_0:=yal BK610.out 0
         have hfz34_1:=yal BK610.out 1
         have hfz34_2:=yal BK610.out 2
         go_wp2
         repeat (go_quiet (fail);try go_wp2)
         go_ret
         exact⟨zG,(have GE_:=GE610;zT)⟩
      ·rw[if_neg c26] at H
       have c26b0:(a2_1 == 0)=false:=beq_eq_false_iff_ne.mpr c26
       have c26b1:(a2_1 != 0)=true:=bne_iff_ne.mpr c26
       obtain rfl:=Option.some.inj H
       have hcz35_0:wc.cell? ⟨gb610,0,none⟩=some (.bool false):=(yan BK610.out 0).trans rfl
       have hcz35_1:wc.cell? ⟨gb610,1,none⟩=some (.int .i64 a2_1):=(yan BK610.out 1).trans rfl
       have hcz35_2:wc.cell? ⟨gb610,2,none⟩=some (.slice A2_2 l2_2.length c2_2):=(yan BK610.out 2).trans rfl
       have hfz35_0:=yal BK610.out 0
       have hfz35_1:=yal BK610.out 1
       have hfz35_2:=yal BK610.out 2
       go_wp2
       repeat (go_quiet (fail);try go_wp2)
       go_ret
       exact⟨zG,(have GE_:=GE610;zT)⟩
def ybz.l0:Nat→Int→List (S53)→Int→Option (Int)
 | 0,_,_,_=>none
 | k+1,x0,x1,x5=>if x5<(x1.length:Int) then (if 0≤x5 then ((ybg.f k x0 true ((yaj x1 x5).f0) ((yaj x1 x5).f1) ((yaj x1 x5).f2)).bind fun t615=>(if t615=0 then (ybz.l0 k x0 x1 (wrap64 (x5+1))) else (some t615))) else (none)) else (some 0)
def ybz.f (k:Nat) (a0:Int) (l1:List (S53)):Option (Int):=if (l1.length:Int) > 4096 then (some 4) else (ybz.l0 k a0 l1 0)
theorem ybz.calls (k:Nat) (a0:Int) (A1:Option Addr) (c1:Nat) (l1:List (S53)) (r:Int) (w:World) (hr1:Kd.C k53 w A1 l1.length l1) (hc1:l1.length≤c1) (h:ybz.f k a0 l1=some r) :
  Calls Tryz.prog 33 #[.int .i64 a0,.slice A1 l1.length c1] w fun e w'=>e=.returned (.int .i64 r)∧Below w.heap.size w w':=by
 have hu53:=Tryz.underlying53
 have HR1:=yaa.mk hr1
 have HC1:=yaa.mk hc1
 clear hr1 hc1
 have HB:=yaa.mk (Below.refl w.heap.size w)
 have H:(if (l1.length:Int) > 4096 then (some 4) else (ybz.l0 k a0 l1 0))=some r:=h
 clear h
 by_cases c3:(l1.length:Int) > 4096
 ·rw[if_pos c3] at H
  have c3b0:decide (4096<(l1.length:Int))=true:=decide_eq_true c3
  have c3b1:decide (4096<l1.length)=true:=decide_eq_true (by omega)
  clear c3
  obtain rfl:=Option.some.inj H
  go_enter Tryz.func33,Tryz.ntmps33
  go_wp2
  go_ret
  exact⟨zG,zB⟩
 ·rw[if_neg c3] at H
  have c3b0:decide (4096<(l1.length:Int))=false:=decide_eq_false c3
  have c3b1:decide (4096<l1.length)=false:=decide_eq_false (by omega)
  clear c3
  have H':=yaa.mk H
  clear H
  go_enter Tryz.func33,Tryz.ntmps33
  go_wp2
  go_loopg [5] k (fun kq v5 w'=>∃ (x5_1:Int),v5=.int .i64 x5_1∧yaa (ybz.l0 kq a0 l1 x5_1=some r)∧yaa (kq≤k)∧yaa (Below w.heap.size w w'))
  case atStart=>exact⟨(0),zF,H',⟨Nat.le_refl _⟩,⟨zB⟩⟩
  case round =>
   clear H'
   try clear c1
   try clear p2
   try clear c3
   try clear c3b0
   try clear c3b1
   obtain⟨x5_1,rfl,HA,HK1,HB⟩:=hrel
   cases gk with
   | zero=>exact absurd HA.out (by simp [ybz.l0])
   | succ k1 =>
    have H:=HA.out
    clear HA
    simp only[ybz.l0] at H
    by_cases c4:x5_1<(l1.length:Int)
    ·rw[if_pos c4] at H
     have c4b0:=decide_eq_true c4
     clear c4
     by_cases c5:0≤x5_1
     ·rw[if_pos c5] at H
      have c5b0:=decide_eq_true c5
      clear c5
      replace H:=Option.bind_eq_some_iff.mp H
      obtain⟨t615,A60,H⟩:=H
      try dsimp only at H
      have A6:=yaa.mk A60
      clear A60
      by_cases c7:t615=0
      ·rw[if_pos c7] at H
       have c7b0:(t615 == 0)=true:=beq_iff_eq.mpr c7
       have c7b1:(t615 != 0)=false:=bne_eq_false_iff_eq.mpr c7
       clear c7
       have H':=yaa.mk H
       clear H
       have p614:0≤(x5_1:Int):=of_decide_eq_true zA
       have q614:x5_1<(l1.length:Int):=of_decide_eq_true zA
       obtain⟨ad614,A614_2,c614_2,e614,hx614_0,hx614_1,hx614_2,hl614_2,hi614_2⟩:=ye2 HR1.out x5_1 p614 q614
       cases e614
       replace hx614_0:=(HB.out.cell (World.block_lt_of_cell? w _ hx614_0)).trans hx614_0
       replace hx614_1:=(HB.out.cell (World.block_lt_of_cell? w _ hx614_1)).trans hx614_1
       replace hx614_2:=(HB.out.cell (World.block_lt_of_cell? w _ hx614_2)).trans hx614_2
       have HR614_2:=yaa.mk hi614_2
       have HC614_2:=yaa.mk hl614_2
       clear hi614_2 hl614_2
       replace p614:=eq_true p614
       replace q614:=eq_true q614
       go_wp2_with (first|((with_reducible refine yah (f:=56) rfl ?_);refine ya6 (some 21) rfl rfl Tryz.func56 (by kernel_rfl) rfl #[.int .i64 a0,.bool true,.agg #[.bool ((yaj l1 x5_1).f0),.int .i64 ((yaj l1 x5_1).f1),.slice A614_2 ((yaj l1 x5_1).f2).length c614_2]] rfl zE ?_;(with_reducible refine(ybg.calls k1 a0 true ((yaj l1 x5_1).f0) ((yaj l1 x5_1).f1) _ _ ((yaj l1 x5_1).f2) t615 _ ?side1 ?side2 A6.out).mono ?_);(case side1=>exact zC (Kd.C_below HR614_2.out HB.out));(case side2=>exact HC614_2.out);rintro e w8 ⟨rfl,hb⟩;refine⟨_,rfl,?_⟩;have n0_:=yaa.mk (yai zB hb);clear HB;have HB:=n0_;clear n0_;(try clear hb);(try clear hb2);(try clear hk);(try clear hi)))
       go_roundg k1
       case measure=>have:=HK1.out;omega
       case rel=>exact⟨(wrap64 (x5_1+1)),zF,H',⟨by have:=HK1.out;omega⟩,⟨zB⟩⟩
      ·rw[if_neg c7] at H
       have c7b0:(t615 == 0)=false:=beq_eq_false_iff_ne.mpr c7
       have c7b1:(t615 != 0)=true:=bne_iff_ne.mpr c7
       obtain rfl:=Option.some.inj H
       have p614:0≤(x5_1:Int):=of_decide_eq_true zA
       have q614:x5_1<(l1.length:Int):=of_decide_eq_true zA
       obtain⟨ad614,A614_2,c614_2,e614,hx614_0,hx614_1,hx614_2,hl614_2,hi614_2⟩:=ye2 HR1.out x5_1 p614 q614
       cases e614
       replace hx614_0:=(HB.out.cell (World.block_lt_of_cell? w _ hx614_0)).trans hx614_0
       replace hx614_1:=(HB.out.cell (World.block_lt_of_cell? w _ hx614_1)).trans hx614_1
       replace hx614_2:=(HB.out.cell (World.block_lt_of_cell? w _ hx614_2)).trans hx614_2
       have HR614_2:=yaa.mk hi614_2
       have HC614_2:=yaa.mk hl614_2
       clear hi614_2 hl614_2
       replace p614:=eq_true p614
       replace q614:=eq_true q614
       go_wp2_with (first|((with_reducible refine yah (f:=56) rfl ?_);refine ya6 (some 21) rfl rfl Tryz.func56 (by kernel_rfl) rfl #[.int .i64 a0,.bool true,.agg #[.bool ((yaj l1 x5_1).f0),.int .i64 ((yaj l1 x5_1).f1),.slice A614_2 ((yaj l1 x5_1).f2).length c614_2]] rfl zE ?_;(with_reducible refine(ybg.calls k1 a0 true ((yaj l1 x5_1).f0) ((yaj l1 x5_1).f1) _ _ ((yaj l1 x5_1).f2) t615 _ ?side1 ?side2 A6.out).mono ?_);(case side1=>exact zC (Kd.C_below HR614_2.out HB.out));(case side2=>exact HC614_2.out);rintro e w9 ⟨rfl,hb⟩;refine⟨_,rfl,?_⟩;have n0_:=yaa.mk (yai zB hb);clear HB;have HB:=n0_;clear n0_;(try clear hb);(try clear hb2);(try clear hk);(try clear hi)))
       go_ret
       exact⟨zG,zB⟩
     ·rw[if_neg c5] at H
      exact absurd H (by simp)
    ·rw[if_neg c4] at H
     have c4b0:=decide_eq_false c4
     clear c4
     obtain rfl:=Option.some.inj H
     go_wp2
     go_ret
     exact⟨zG,zB⟩
def ybw.l0:Nat→List Int→List Int→Int→Option (List Int)
 | 0,_,_,_=>none
 | k+1,x0,x1,x5=>if x5<(x1.length:Int) then (if 0≤x5 then (if x0.length<140737488355328 then (ybw.l0 k (x0++[rd x1 x5]) x1 (wrap64 (x5+1))) else (none)) else (none)) else (some x0)
def ybw.f (k:Nat) (l0:List Int) (l1:List Int):Option (List Int):=ybw.l0 k l0 l1 0
theorem ybw.calls (k:Nat) (P0_:Nat→Prop) (u9000_:Value) (l0:List Int) (A1:Option Addr) (c1:Nat) (l1:List Int) (r:List Int) (w0 w:World) (hB:Below w0.heap.size w0 w) (ho0:Kd.R (Kd.int .u8) 5 w w0.heap.size P0_ u9000_ l0) (hr1:∀ W_,Kept w W_ (fun k_=>P0_ k_)→Kd.C (Kd.int .u8) W_ A1 l1.length l1) (hc1:l1.length≤c1) (h:ybw.f k l0 l1=some r) :
  Calls Tryz.prog 57 #[u9000_,.slice A1 l1.length c1] w fun e w'=>∃ v0_:Value,e=.returned (v0_)∧Kd.R (Kd.int .u8) 5 w' w0.heap.size (fun k_=>(P0_ k_∨w.heap.size≤k_)) v0_ r∧Below w0.heap.size w0 w'∧Kept w w' (fun k_=>P0_ k_):=by
 have HO0:=yaa.mk (show Kd.R (Kd.int .u8) 5 w w0.heap.size (fun k_=>(P0_ k_∨w.heap.size≤k_)) u9000_ l0 from Kd.R_mono ho0 (fun k_ hk=>(.inl hk)))
 have HR1:=yaa.mk hr1
 have HC1:=yaa.mk hc1
 clear hr1 hc1
 have HK:=yaa.mk (Kept.refl w (fun k_=>P0_ k_))
 have HW0:=yaa.mk hB.size
 have HB:=yaa.mk hB
 clear hB
 have H:(ybw.l0 k l0 l1 0)=some r:=h
 clear h
 have H':=yaa.mk H
 clear H
 go_enter Tryz.func57,Tryz.ntmps57
 go_wp2
 go_loopg [0,5] k (fun kq v0 v5 w'=>∃ (x0_1:List Int) (x5_1:Int),v5=.int .i64 x5_1∧yaa (ybw.l0 kq x0_1 l1 x5_1=some r)∧yaa (kq≤k)∧yaa (Kd.R (Kd.int .u8) 5 w' w0.heap.size (fun k_=>(P0_ k_∨w.heap.size≤k_)) v0 x0_1)∧yaa (Kept w w' (fun k_=>P0_ k_))∧yaa (Below w0.heap.size w0 w'))
 case atStart=>exact⟨(l0),(0),zF,H',⟨Nat.le_refl _⟩,⟨zR HO0.out⟩,⟨by repeat (first|(with_reducible first|exact HK.out|apply Kept.alloc|apply Kept.drewN|apply Kept.drew)|exact HK.out)⟩,⟨zB⟩⟩
 case round =>
  clear H'
  try clear c1
  try clear p2
  obtain⟨x0_1,x5_1,rfl,HA,HK1,HO_0,HK,HB⟩:=hrel
  cases gk with
  | zero=>exact absurd HA.out (by simp [ybw.l0])
  | succ k1 =>
   have H:=HA.out
   clear HA
   simp only[ybw.l0] at H
   by_cases c3:x5_1<(l1.length:Int)
   ·rw[if_pos c3] at H
    have c3b0:=decide_eq_true c3
    clear c3
    by_cases c4:0≤x5_1
    ·rw[if_pos c4] at H
     have c4b0:=decide_eq_true c4
     clear c4
     by_cases c5:x0_1.length<140737488355328
     ·rw[if_pos c5] at H
      have LMc5:=yaa.mk c5
      clear c5
      obtain⟨y617,hy617⟩:∃ y_:List Int,y_=(x0_1++[rd l1 x5_1]):=⟨_,rfl⟩
      replace H:(ybw.l0 k1 y617 l1 (wrap64 (x5_1+1)))=some r:=by first|(rw[hy617];with_reducible exact H)|(have H2_:=(Option.bind_some _ _).symm.trans H;rw[hy617];with_reducible exact H2_)|(have H2_:=(Option.bind_some _ _).symm.trans H;with_reducible exact H2_)|with_reducible exact H|(rw[hy617];exact H)|exact H
      have Ny617:=yaa.mk hy617
      clear hy617
      have H':=yaa.mk H
      clear H
      have p616:0≤(x5_1:Int):=of_decide_eq_true zA
      have q616:x5_1<(l1.length:Int):=of_decide_eq_true zA
      obtain⟨ad616,e616,hx616_0⟩:=Kd.at_int (Kd.C_kept_now HR1.out HK.out) x5_1 p616 q616
      cases e616
      replace p616:=eq_true p616
      replace q616:=eq_true q616
      go_wp2_with (first|((with_reducible refine ybe (b:=.append) (xs:=#[.tmp 12,.tmp 17]) rfl ?_);at_builtin;refine Kd.R_append (Kd.int .u8) (w0:=w0) w0.heap.size rfl (.tmp 12) (.tmp 17) 25 5 (.int .u8 0) 1 rfl Tryz.underlying25 yb9 rfl (by decide) (by omega) u0 x0_1 (rd l1 x5_1) [.int .u8 (rd l1 x5_1)] (fun k_=>(P0_ k_∨w.heap.size≤k_)) (fun _=>False) rfl rfl ?aP (fun _ hk=>hk.elim) ?aF ?aO ?aB ?aS ?aL ?_;(case aP=>exact rfl);(case aB=>exact zB);(case aF=>exact(fun k_ hk=>(.inr (Nat.le_trans (by first|exact HK.out.1|exact(show Kept w _ (fun k_=>P0_ k_) from by repeat (first|(with_reducible first|exact HK.out|apply Kept.alloc|apply Kept.drewN|apply Kept.drew)|exact HK.out)).1) hk))));(case aO=>exact(zR HO_0.out));(case aS=>exact(yac zB));(case aL=>have:=LMc5.out;omega);intro v618 w6 ho hb hg hat;rw[← Ny617.out] at ho;have n0_:=yaa.mk (hb);have n1_:=yaa.mk (Kept.of_grown (S:=(fun k_=>P0_ k_)) hg (by repeat (first|(with_reducible first|exact HK.out|apply Kept.alloc|apply Kept.drewN|apply Kept.drew)|exact HK.out)) (fun k_ e_=>(HO_0.out.1 k_ e_)));have n2_:=yaa.mk (ho);clear HB;clear HK;clear HO_0;have HB:=n0_;have HK:=n1_;have HO619:=n2_;clear n0_ n1_ n2_;clear ho hb hg hat))
      go_roundg k1
      case measure=>have:=HK1.out;omega
      case rel=>exact⟨(y617),(wrap64 (x5_1+1)),zF,H',⟨by have:=HK1.out;omega⟩,⟨zR HO619.out⟩,⟨by repeat (first|(with_reducible first|exact HK.out|apply Kept.alloc|apply Kept.drewN|apply Kept.drew)|exact HK.out)⟩,⟨zB⟩⟩
     ·rw[if_neg c5] at H
      exact absurd H (by simp)
    ·rw[if_neg c4] at H
     exact absurd H (by simp)
   ·rw[if_neg c3] at H
    have c3b0:=decide_eq_false c3
    clear c3
    obtain rfl:=Option.some.inj H
    go_wp2
    go_ret
    exact⟨_,zG,zR HO_0.out,zB,by repeat (first|(with_reducible first|exact HK.out|apply Kept.alloc|apply Kept.drewN|apply Kept.drew)|exact HK.out)⟩
def yae.l0:Nat→Int→List Int→Option (List Int)
 | 0,_,_=>none
 | k+1,x0,x3=>if x0 > 127 then (if x3.length<140737488355328 then (yae.l0 k (IntKind.u64.wrap (Int.tdiv x0 128)) (x3++[(IntKind.u64.wrap ((Int.tmod x0 128)+128))%256])) else (none)) else (if x3.length<140737488355328 then (some (x3++[(x0)%256])) else (none))
def yae.f (k:Nat) (a0:Int):Option (List Int):=yae.l0 k a0 (([]:List Int))
theorem yae.mono_l:∀ k,(∀ y0 y1,LeO (yae.l0 k y0 y1) (yae.l0 (k+1) y0 y1))
 | 0=>fun _ _ r h=>by simp [yae.l0] at h
 | k+1=>by
  have ih0:=yae.mono_l k
  ·intro y0 y1
   unfold yae.l0
   repeat' first
   | (with_reducible exact ih0 _ _)
   | (with_reducible exact LeO.refl _)
   | (with_reducible exact LeO.none _)
   | (with_reducible refine LeO.ite ?_ ?_)
   | (with_reducible refine LeO.bind ?_ (fun _=>?_))
theorem yae.mono:∀ a0 k,LeO (yae.f k a0) (yae.f (k+1) a0):=by
 intro a0 k
 have ih0:=yae.mono_l k
 unfold yae.f
 repeat' first
   | (with_reducible exact ih0 _ _)
   | (with_reducible exact LeO.refl _)
   | (with_reducible exact LeO.none _)
   | (with_reducible refine LeO.ite ?_ ?_)
   | (with_reducible refine LeO.bind ?_ (fun _=>?_))
theorem yae.calls (k:Nat) (a0:Int) (r:List Int) (w:World) (h:yae.f k a0=some r) :
  Calls Tryz.prog 58 #[.int .u64 a0] w fun e w'=>∃ v0_:Value,e=.returned (v0_)∧Kd.R (Kd.int .u8) 5 w' w.heap.size (fun _=>True) v0_ r∧Below w.heap.size w w':=by
 have HB:=yaa.mk (Below.refl w.heap.size w)
 have H:(yae.l0 k a0 (([]:List Int)))=some r:=h
 clear h
 obtain⟨y620,hy620⟩:∃ y_:List Int,y_=(([]:List Int)):=⟨_,rfl⟩
 replace H:(yae.l0 k a0 y620)=some r:=by first|(rw[hy620];with_reducible exact H)|(have H2_:=(Option.bind_some _ _).symm.trans H;rw[hy620];with_reducible exact H2_)|(have H2_:=(Option.bind_some _ _).symm.trans H;with_reducible exact H2_)|with_reducible exact H|(rw[hy620];exact H)|exact H
 have Ny620:=yaa.mk hy620
 clear hy620
 have H':=yaa.mk H
 clear H
 go_enter Tryz.func58,Tryz.ntmps58
 go_wp2_with (first|((with_reducible refine yb1 (N:=4) rfl ?_);refine Kd.R_lit (Kd.int .u8) _ 5 ?hg (N:=4) ?hd (xs:=([]:List Int)) (inner:=[]) (ok:=fun _=>True) (okp:=fun _=>True) ?hr ?hp (fun _ hk=>hk) trivial (Below.refl _ _) (Nat.le_refl _) (by simp) ?_;(case hd=>rfl);(case hg=>rfl);(case hr=>first|(go_simp;done)|(go_simp;rfl));(case hp=>exact(Reps.none _ _));intro v621 w2 ho3 hb hg_ hnew_;clear hg_ hnew_;(first|rw[← Ny620.out] at ho3|(simp only[Int.reduceToNat] at ho3;rw[← Ny620.out] at ho3));have n0_:=yaa.mk (Kd.R_lower ho3 (yac zB));have n1_:=yaa.mk (yai zB hb);clear HB;have HO622:=n0_;have HB:=n1_;clear n0_ n1_;clear hb ho3))
 go_loopg [0,3] k (fun kq v0 v3 w'=>∃ (x0_1:Int) (x3_1:List Int),v0=.int .u64 x0_1∧yaa (yae.l0 kq x0_1 x3_1=some r)∧yaa (kq≤k)∧yaa (Kd.R (Kd.int .u8) 5 w' w.heap.size (fun _=>True) v3 x3_1)∧yaa (Below w.heap.size w w'))
 case atStart=>exact⟨(a0),(y620),zF,H',⟨Nat.le_refl _⟩,⟨zR HO622.out⟩,⟨zB⟩⟩
 case round =>
  clear H'
  try clear p2
  obtain⟨x0_1,x3_1,rfl,HA,HK1,HO_3,HB⟩:=hrel
  cases gk with
  | zero=>exact absurd HA.out (by simp [yae.l0])
  | succ k1 =>
   have H:=HA.out
   clear HA
   simp only[yae.l0] at H
   by_cases c4:x0_1 > 127
   ·rw[if_pos c4] at H
    have c4b0:decide (127<x0_1)=true:=decide_eq_true c4
    clear c4
    by_cases c5:x3_1.length<140737488355328
    ·rw[if_pos c5] at H
     have LMc5:=yaa.mk c5
     clear c5
     obtain⟨y623,hy623⟩:∃ y_:List Int,y_=(x3_1++[(IntKind.u64.wrap ((Int.tmod x0_1 128)+128))%256]):=⟨_,rfl⟩
     replace H:(yae.l0 k1 (IntKind.u64.wrap (Int.tdiv x0_1 128)) y623)=some r:=by first|(rw[hy623];with_reducible exact H)|(have H2_:=(Option.bind_some _ _).symm.trans H;rw[hy623];with_reducible exact H2_)|(have H2_:=(Option.bind_some _ _).symm.trans H;with_reducible exact H2_)|with_reducible exact H|(rw[hy623];exact H)|exact H
     have Ny623:=yaa.mk hy623
     clear hy623
     have H':=yaa.mk H
     clear H
     go_wp2_with (first|((with_reducible refine ybe (b:=.append) (xs:=#[.tmp 7,.tmp 12]) rfl ?_);at_builtin;refine Kd.R_append (Kd.int .u8) (w0:=w) w.heap.size rfl (.tmp 7) (.tmp 12) 25 5 (.int .u8 0) 1 rfl Tryz.underlying25 yb9 rfl (by decide) (by omega) u3 x3_1 ((IntKind.u64.wrap ((Int.tmod x0_1 128)+128))%256) [.int .u8 ((IntKind.u64.wrap ((Int.tmod x0_1 128)+128))%256)] (fun _=>True) (fun _=>False) rfl rfl ?aP (fun _ hk=>hk.elim) ?aF ?aO ?aB ?aS ?aL ?_;(case aP=>exact rfl);(case aB=>exact zB);(case aF=>exact fun _ _=>trivial);(case aO=>exact(zR HO_3.out));(case aS=>exact(yac zB));(case aL=>have:=LMc5.out;omega);intro v624 w6 ho hb hg hat;rw[← Ny623.out] at ho;have n0_:=yaa.mk (hb);have n1_:=yaa.mk (ho);clear HB;clear HO_3;have HB:=n0_;have HO625:=n1_;clear n0_ n1_;clear ho hb hg hat))
     go_roundg k1
     case measure=>have:=HK1.out;omega
     case rel=>exact⟨(IntKind.u64.wrap (Int.tdiv x0_1 128)),(y623),zF,H',⟨by have:=HK1.out;omega⟩,⟨zR HO625.out⟩,⟨zB⟩⟩
    ·rw[if_neg c5] at H
     exact absurd H (by simp)
   ·rw[if_neg c4] at H
    have c4b0:decide (127<x0_1)=false:=decide_eq_false c4
    clear c4
    by_cases c7:x3_1.length<140737488355328
    ·rw[if_pos c7] at H
     have LMc7:=yaa.mk c7
     clear c7
     obtain⟨y626,hy626⟩:∃ y_:List Int,y_=(x3_1++[(x0_1)%256]):=⟨_,rfl⟩
     replace H:(some y626)=some r:=by first|(rw[hy626];with_reducible exact H)|(have H2_:=(Option.bind_some _ _).symm.trans H;rw[hy626];with_reducible exact H2_)|(have H2_:=(Option.bind_some _ _).symm.trans H;with_reducible exact H2_)|with_reducible exact H|(rw[hy626];exact H)|exact H
     have Ny626:=yaa.mk hy626
     clear hy626
     obtain rfl:=Option.some.inj H
     go_wp2_with (first|((with_reducible refine ybe (b:=.append) (xs:=#[.tmp 16,.tmp 19]) rfl ?_);at_builtin;refine Kd.R_append (Kd.int .u8) (w0:=w) w.heap.size rfl (.tmp 16) (.tmp 19) 25 5 (.int .u8 0) 1 rfl Tryz.underlying25 yb9 rfl (by decide) (by omega) u3 x3_1 ((x0_1)%256) [.int .u8 ((x0_1)%256)] (fun _=>True) (fun _=>False) rfl rfl ?aP (fun _ hk=>hk.elim) ?aF ?aO ?aB ?aS ?aL ?_;(case aP=>exact rfl);(case aB=>exact zB);(case aF=>exact fun _ _=>trivial);(case aO=>exact(zR HO_3.out));(case aS=>exact(yac zB));(case aL=>have:=LMc7.out;omega);intro v627 w8 ho hb hg hat;rw[← Ny626.out] at ho;have n0_:=yaa.mk (hb);have n1_:=yaa.mk (ho);clear HB;clear HO_3;have HB:=n0_;have HO628:=n1_;clear n0_ n1_;clear ho hb hg hat))
     go_ret
     exact⟨_,zG,zR HO628.out,zB⟩
    ·rw[if_neg c7] at H
     exact absurd H (by simp)
end Go.Proofs.YteeikgjjgfdjgaaGreat.PK
end
