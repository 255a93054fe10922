/-
  Parts of the proof: E19, E26.
-/
import Derived.Test.YteeikgjjgfdjgaaGreatU17
import Derived.Test.YteeikgjjgfdjgaaGreatU20
set_option maxHeartbeats 8000000
set_option maxRecDepth 100000
section
namespace Go.Proofs.YteeikgjjgfdjgaaGreat.PK
open Go.RowKit YteeikgjjgfdjgaaGreatW.PrintWords YteeikgjjgfdjgaaGreatW.PrintLast YteeikgjjgfdjgaaGreatW.PrintMore
attribute [local go_sem] yco ycp yc5 yc4 yck ycl ycs yct
set_option linter.unusedVariables false
set_option linter.unusedSimpArgs false
def yev.f (k:Nat) (a0_0:Bool) (a0_1:Int) (l0_2:List Int) (a1_0:Bool) (a1_1:Int) (l1_2:List Int):Option (Bool):=if (a0_0 == a1_0)=true then (if a0_1=a1_1 then ((yay.f k l0_2 l1_2).bind fun t941=>(some t941)) else (some false)) else (some false)
theorem yev.calls (k:Nat) (a0_0:Bool) (a0_1:Int) (A0_2:Option Addr) (c0_2:Nat) (l0_2:List Int) (a1_0:Bool) (a1_1:Int) (A1_2:Option Addr) (c1_2:Nat) (l1_2:List Int) (r:Bool) (w:World) (hr0_2:Kd.C (Kd.int .u8) w A0_2 l0_2.length l0_2) (hc0_2:l0_2.length≤c0_2) (hr1_2:Kd.C (Kd.int .u8) w A1_2 l1_2.length l1_2) (hc1_2:l1_2.length≤c1_2) (h:yev.f k a0_0 a0_1 l0_2 a1_0 a1_1 l1_2=some r) :
  Calls Tryz.prog 37 #[.agg #[.bool a0_0,.int .i64 a0_1,.slice A0_2 l0_2.length c0_2],.agg #[.bool a1_0,.int .i64 a1_1,.slice A1_2 l1_2.length c1_2]] w fun e w'=>e=.returned (.bool r)∧Below w.heap.size w w':=by
 have hu53:=Tryz.underlying53
 have HR0_2:=yaa.mk hr0_2
 have HC0_2:=yaa.mk hc0_2
 clear hr0_2 hc0_2
 have HR1_2:=yaa.mk hr1_2
 have HC1_2:=yaa.mk hc1_2
 clear hr1_2 hc1_2
 have HB:=yaa.mk (Below.refl w.heap.size w)
 have H:(if (a0_0 == a1_0)=true then (if a0_1=a1_1 then ((yay.f k l0_2 l1_2).bind fun t941=>(some t941)) else (some false)) else (some false))=some r:=h
 clear h
 by_cases c3:(a0_0 == a1_0)=true
 ·rw[if_pos c3] at H
  have c3b0:(a0_0 == a1_0)=true:=c3
  (try (have c3b1:decide (a0_0=a1_0)=true:=by simpa using c3))
  (try (have c3b2:(a0_0 == a1_0)=true:=by simpa using c3))
  clear c3
  by_cases c4:a0_1=a1_1
  ·rw[if_pos c4] at H
   have c4b0:(a0_1 == a1_1)=true:=beq_iff_eq.mpr c4
   have c4b1:(a0_1 != a1_1)=false:=bne_eq_false_iff_eq.mpr c4
   clear c4
   replace H:=Option.bind_eq_some_iff.mp H
   obtain⟨t941,A50,H⟩:=H
   try dsimp only at H
   have A5:=yaa.mk A50
   clear A50
   obtain rfl:=Option.some.inj H
   go_enter Tryz.func37,Tryz.ntmps37
   go_wp2_with (first|((with_reducible refine yb1 (N:=2) rfl ?_);refine yd4 ?hg (N:=2) ?hd (cs:=#[.bool a0_0,.int .i64 a0_1,.slice A0_2 l0_2.length c0_2]) (t:=53) ?hr ?_;(case hd=>rfl);(case hg=>rfl);(case hr=>first|(go_simp;done)|(go_simp;rfl));intro gb939 hg w6 hbox hb;have n0_:=yaa.mk (yai zB hb);have n1_:=yaa.mk (hbox);have n2_:=yaa.mk ((by rw[hg];exact(yac zB):w.heap.size≤gb939));have n3_:=yaa.mk ((by rw[hg];exact(yac zB):w.heap.size≤gb939));clear HB;have HB:=n0_;have BK939:=n1_;have GW939:=n2_;have GE939:=n3_;clear n0_ n1_ n2_ n3_;clear hb hbox hg)|((with_reducible refine yb1 (N:=3) rfl ?_);refine yd4 ?hg (N:=3) ?hd (cs:=#[.bool a1_0,.int .i64 a1_1,.slice A1_2 l1_2.length c1_2]) (t:=53) ?hr ?_;(case hd=>rfl);(case hg=>rfl);(case hr=>first|(go_simp;done)|(go_simp;rfl));intro gb940 hg w7 hbox hb;have n0_:=yaa.mk (ygi (g:=gb939) (o:=.cells #[.bool a0_0,.int .i64 a0_1,.slice A0_2 l0_2.length c0_2] 53 (0,0)) (by (with_reducible repeat (first|refine ybs ?_ _|refine yb2 ?_|refine ybr ?_ _));exact BK939.out) hb);have n1_:=yaa.mk (yai (have GE_:=GE939;zT) hb);have n2_:=yaa.mk (hbox);have n3_:=yaa.mk ((by rw[hg];exact(yac (have GE_:=GE939;zT)):w.heap.size≤gb940));have n4_:=yaa.mk ((by rw[hg];exact(yac (have GE_:=GE939;zT)):w.heap.size≤gb940));have n5_:=yaa.mk ((by rw[hg];exact Nat.ne_of_lt (ygx (g:=gb939) (o:=.cells #[.bool a0_0,.int .i64 a0_1,.slice A0_2 l0_2.length c0_2] 53 (0,0)) (by (with_reducible repeat (first|refine ybs ?_ _|refine yb2 ?_|refine ybr ?_ _));exact BK939.out)):gb939≠gb940));have n6_:=yaa.mk ((by rw[hg];exact Nat.ne_of_gt (ygx (g:=gb939) (o:=.cells #[.bool a0_0,.int .i64 a0_1,.slice A0_2 l0_2.length c0_2] 53 (0,0)) (by (with_reducible repeat (first|refine ybs ?_ _|refine yb2 ?_|refine ybr ?_ _));exact BK939.out)):gb940≠gb939));clear BK939;clear HB;have BK939:=n0_;have HB:=n1_;have BK940:=n2_;have GW940:=n3_;have GE940:=n4_;have NB939_940:=n5_;have NB940_939:=n6_;clear n0_ n1_ n2_ n3_ n4_ n5_ n6_;clear hb hbox hg;have hnb8:=NB939_940.out;have hnc8:=NB940_939.out;have hcz9_0:w7.cell? ⟨gb939,0,none⟩=some (.bool a0_0):=(yan BK939.out 0).trans rfl;have hcz9_1:w7.cell? ⟨gb939,1,none⟩=some (.int .i64 a0_1):=(yan BK939.out 1).trans rfl;have hcz9_2:w7.cell? ⟨gb939,2,none⟩=some (.slice A0_2 l0_2.length c0_2):=(yan BK939.out 2).trans rfl;have hfz9_0:=yal BK939.out 0;have hfz9_1:=yal BK939.out 1;have hfz9_2:=yal BK939.out 2;have hcz10_0:w7.cell? ⟨gb940,0,none⟩=some (.bool a1_0):=(yan BK940.out 0).trans rfl;have hcz10_1:w7.cell? ⟨gb940,1,none⟩=some (.int .i64 a1_1):=(yan BK940.out 1).trans rfl;have hcz10_2:w7.cell? ⟨gb940,2,none⟩=some (.slice A1_2 l1_2.length c1_2):=(yan BK940.out 2).trans rfl;have hfz10_0:=yal BK940.out 0;have hfz10_1:=yal BK940.out 1;have hfz10_2:=yal BK940.out 2)|(go_at_call 17;(with_reducible refine(yay.calls k _ _ l0_2 _ _ l1_2 t941 _ ?side1 ?side2 ?side3 ?side4 A5.out).mono ?_);(case side1=>exact zC (Kd.C_below HR0_2.out HB.out));(case side2=>exact HC0_2.out);(case side3=>exact zC (Kd.C_below HR1_2.out HB.out));(case side4=>exact HC1_2.out);rintro e w' ⟨rfl,⟨nd,rfl⟩⟩))
   go_ret
   exact⟨zG,by repeat (first|(with_reducible first|exact HB.out|apply yak|apply yab|apply ydf|refine ydu ?_ GE939.out|refine ydu ?_ GE940.out)|exact HB.out)⟩
  ·rw[if_neg c4] at H
   have c4b0:(a0_1 == a1_1)=false:=beq_eq_false_iff_ne.mpr c4
   have c4b1:(a0_1 != a1_1)=true:=bne_iff_ne.mpr c4
   obtain rfl:=Option.some.inj H
   go_enter Tryz.func37,Tryz.ntmps37
   go_wp2_with (first|((with_reducible refine yb1 (N:=2) rfl ?_);refine yd4 ?hg (N:=2) ?hd (cs:=#[.bool a0_0,.int .i64 a0_1,.slice A0_2 l0_2.length c0_2]) (t:=53) ?hr ?_;(case hd=>rfl);(case hg=>rfl);(case hr=>first|(go_simp;done)|(go_simp;rfl));intro gb939 hg w11 hbox hb;have n0_:=yaa.mk (yai zB hb);have n1_:=yaa.mk (hbox);have n2_:=yaa.mk ((by rw[hg];exact(yac zB):w.heap.size≤gb939));have n3_:=yaa.mk ((by rw[hg];exact(yac zB):w.heap.size≤gb939));clear HB;have HB:=n0_;have BK939:=n1_;have GW939:=n2_;have GE939:=n3_;clear n0_ n1_ n2_ n3_;clear hb hbox hg)|((with_reducible refine yb1 (N:=3) rfl ?_);refine yd4 ?hg (N:=3) ?hd (cs:=#[.bool a1_0,.int .i64 a1_1,.slice A1_2 l1_2.length c1_2]) (t:=53) ?hr ?_;(case hd=>rfl);(case hg=>rfl);(case hr=>first|(go_simp;done)|(go_simp;rfl));intro gb940 hg w12 hbox hb;have n0_:=yaa.mk (ygi (g:=gb939) (o:=.cells #[.bool a0_0,.int .i64 a0_1,.slice A0_2 l0_2.length c0_2] 53 (0,0)) (by (with_reducible repeat (first|refine ybs ?_ _|refine yb2 ?_|refine ybr ?_ _));exact BK939.out) hb);have n1_:=yaa.mk (yai (have GE_:=GE939;zT) hb);have n2_:=yaa.mk (hbox);have n3_:=yaa.mk ((by rw[hg];exact(yac (have GE_:=GE939;zT)):w.heap.size≤gb940));have n4_:=yaa.mk ((by rw[hg];exact(yac (have GE_:=GE939;zT)):w.heap.size≤gb940));have n5_:=yaa.mk ((by rw[hg];exact Nat.ne_of_lt (ygx (g:=gb939) (o:=.cells #[.bool a0_0,.int .i64 a0_1,.slice A0_2 l0_2.length c0_2] 53 (0,0)) (by (with_reducible repeat (first|refine ybs ?_ _|refine yb2 ?_|refine ybr ?_ _));exact BK939.out)):gb939≠gb940));have n6_:=yaa.mk ((by rw[hg];exact Nat.ne_of_gt (ygx (g:=gb939) (o:=.cells #[.bool a0_0,.int .i64 a0_1,.slice A0_2 l0_2.length c0_2] 53 (0,0)) (by (with_reducible repeat (first|refine ybs ?_ _|refine yb2 ?_|refine ybr ?_ _));exact BK939.out)):gb940≠gb939));clear BK939;clear HB;have BK939:=n0_;have HB:=n1_;have BK940:=n2_;have GW940:=n3_;have GE940:=n4_;have NB939_940:=n5_;have NB940_939:=n6_;clear n0_ n1_ n2_ n3_ n4_ n5_ n6_;clear hb hbox hg;have hnb13:=NB939_940.out;have hnc13:=NB940_939.out;have hcz14_0:w12.cell? ⟨gb939,0,none⟩=some (.bool a0_0):=(yan BK939.out 0).trans rfl;have hcz14_1:w12.cell? ⟨gb939,1,none⟩=some (.int .i64 a0_1):=(yan BK939.out 1).trans rfl;have hcz14_2:w12.cell? ⟨gb939,2,none⟩=some (.slice A0_2 l0_2.length c0_2):=(yan BK939.out 2).trans rfl;have hfz14_0:=yal BK939.out 0;have hfz14_1:=yal BK939.out 1;have hfz14_2:=yal BK939.out 2;have hcz15_0:w12.cell? ⟨gb940,0,none⟩=some (.bool a1_0):=(yan BK940.out 0).trans rfl;have hcz15_1:w12.cell? ⟨gb940,1,none⟩=some (.int .i64 a1_1):=(yan BK940.out 1).trans rfl;have hcz15_2:w12.cell? ⟨gb940,2,none⟩=some (.slice A1_2 l1_2.length c1_2):=(yan BK940.out 2).trans rfl;have hfz15_0:=yal BK940.out 0;have hfz15_1:=yal BK940.out 1;have hfz15_2:=yal BK940.out 2))
   go_ret
   exact⟨zG,by repeat (first|(with_reducible first|exact HB.out|apply yak|apply yab|apply ydf|refine ydu ?_ GE939.out|refine ydu ?_ GE940.out)|exact HB.out)⟩
 ·rw[if_neg c3] at H
  have c3b0:(a0_0 == a1_0)=false:=by simpa using c3
  (try (have c3b1:decide (a0_0=a1_0)=false:=by simpa using c3))
  (try (have c3b2:(a0_0 == a1_0)=false:=by simpa using c3))
  (try (have c3b3:¬ (a0_0=a1_0):=by simpa using c3))
  clear c3
  obtain rfl:=Option.some.inj H
  go_enter Tryz.func37,Tryz.ntmps37
  go_wp2_with (first|((with_reducible refine yb1 (N:=2) rfl ?_);refine yd4 ?hg (N:=2) ?hd (cs:=#[.bool a0_0,.int .i64 a0_1,.slice A0_2 l0_2.length c0_2]) (t:=53) ?hr ?_;(case hd=>rfl);(case hg=>rfl);(case hr=>first|(go_simp;done)|(go_simp;rfl));intro gb939 hg w16 hbox hb;have n0_:=yaa.mk (yai zB hb);have n1_:=yaa.mk (hbox);have n2_:=yaa.mk ((by rw[hg];exact(yac zB):w.heap.size≤gb939));have n3_:=yaa.mk ((by rw[hg];exact(yac zB):w.heap.size≤gb939));clear HB;have HB:=n0_;have BK939:=n1_;have GW939:=n2_;have GE939:=n3_;clear n0_ n1_ n2_ n3_;clear hb hbox hg)|((with_reducible refine yb1 (N:=3) rfl ?_);refine yd4 ?hg (N:=3) ?hd (cs:=#[.bool a1_0,.int .i64 a1_1,.slice A1_2 l1_2.length c1_2]) (t:=53) ?hr ?_;(case hd=>rfl);(case hg=>rfl);(case hr=>first|(go_simp;done)|(go_simp;rfl));intro gb940 hg w17 hbox hb;have n0_:=yaa.mk (ygi (g:=gb939) (o:=.cells #[.bool a0_0,.int .i64 a0_1,.slice A0_2 l0_2.length c0_2] 53 (0,0)) (by (with_reducible repeat (first|refine ybs ?_ _|refine yb2 ?_|refine ybr ?_ _));exact BK939.out) hb);have n1_:=yaa.mk (yai (have GE_:=GE939;zT) hb);have n2_:=yaa.mk (hbox);have n3_:=yaa.mk ((by rw[hg];exact(yac (have GE_:=GE939;zT)):w.heap.size≤gb940));have n4_:=yaa.mk ((by rw[hg];exact(yac (have GE_:=GE939;zT)):w.heap.size≤gb940));have n5_:=yaa.mk ((by rw[hg];exact Nat.ne_of_lt (ygx (g:=gb939) (o:=.cells #[.bool a0_0,.int .i64 a0_1,.slice A0_2 l0_2.length c0_2] 53 (0,0)) (by (with_reducible repeat (first|refine ybs ?_ _|refine yb2 ?_|refine ybr ?_ _));exact BK939.out)):gb939≠gb940));have n6_:=yaa.mk ((by rw[hg];exact Nat.ne_of_gt (ygx (g:=gb939) (o:=.cells #[.bool a0_0,.int .i64 a0_1,.slice A0_2 l0_2.length c0_2] 53 (0,0)) (by (with_reducible repeat (first|refine ybs ?_ _|refine yb2 ?_|refine ybr ?_ _));exact BK939.out)):gb940≠gb939));clear BK939;clear HB;have BK939:=n0_;have HB:=n1_;have BK940:=n2_;have GW940:=n3_;have GE940:=n4_;have NB939_940:=n5_;have NB940_939:=n6_;clear n0_ n1_ n2_ n3_ n4_ n5_ n6_;clear hb hbox hg;have hnb18:=NB939_940.out;have hnc18:=NB940_939.out;have hcz19_0:w17.cell? ⟨gb939,0,none⟩=some (.bool a0_0):=(yan BK939.out 0).trans rfl;have hcz19_1:w17.cell? ⟨gb939,1,none⟩=some (.int .i64 a0_1):=(yan BK939.out 1).trans rfl;have hcz19_2:w17.cell? ⟨gb939,2,none⟩=some (.slice A0_2 l0_2.length c0_2):=(yan BK939.out 2).trans rfl;have hfz19_0:=yal BK939.out 0;have hfz19_1:=yal BK939.out 1;have hfz19_2:=yal BK939.out 2;have hcz20_0:w17.cell? ⟨gb940,0,none⟩=some (.bool a1_0):=(yan BK940.out 0).trans rfl;have hcz20_1:w17.cell? ⟨gb940,1,none⟩=some (.int .i64 a1_1):=(yan BK940.out 1).trans rfl;have hcz20_2:w17.cell? ⟨gb940,2,none⟩=some (.slice A1_2 l1_2.length c1_2):=(yan BK940.out 2).trans rfl;have hfz20_0:=yal BK940.out 0;have hfz20_1:=yal BK940.out 1;have hfz20_2:=yal BK940.out 2))
  go_ret
  exact⟨zG,by repeat (first|(with_reducible first|exact HB.out|apply yak|apply yab|apply ydf|refine ydu ?_ GE939.out|refine ydu ?_ GE940.out)|exact HB.out)⟩
def ya2.l0:Nat→List (S53)→List (S53)→Int→Option (Bool)
 | 0,_,_,_=>none
 | k+1,x0,x1,x5=>if x5<(x0.length:Int) then (if 0≤x5 then (if x5<(x1.length:Int) then ((yev.f k ((yaj x0 x5).f0) ((yaj x0 x5).f1) ((yaj x0 x5).f2) ((yaj x1 x5).f0) ((yaj x1 x5).f1) ((yaj x1 x5).f2)).bind fun t944=>(if t944=true then (ya2.l0 k x0 x1 (wrap64 (x5+1))) else (some false))) else (none)) else (none)) else (some true)
def ya2.f (k:Nat) (l0:List (S53)) (l1:List (S53)):Option (Bool):=if (l0.length:Int)=(l1.length:Int) then (ya2.l0 k l0 l1 0) else (some false)
def ya2.T6:Bool×List (List Nat×List Nat):=(true,[([],[]),([],[]),([0,1],[0,1]),([2],[2]),([],[]),([],[]),([4,5],[4,5]),([6],[6]),([3,7],[3,7]),([8],[8])])
def ya2.B6:List Nat:=[0,0,3,7,0,0,48,112,255,511]
theorem ya2.tab6:rtab .any (opsOf Tryz.f14 6)=ya2.T6:=by kernel_rfl
theorem ya2.bits6:yhh ya2.T6.2 ya2.B6=true:=by kernel_rfl
theorem ya2.calls (k:Nat) (A0:Option Addr) (c0:Nat) (l0:List (S53)) (A1:Option Addr) (c1:Nat) (l1:List (S53)) (r:Bool) (w:World) (hr0:Kd.C k53 w A0 l0.length l0) (hc0:l0.length≤c0) (hr1:Kd.C k53 w A1 l1.length l1) (hc1:l1.length≤c1) (h:ya2.f k l0 l1=some r) :
  Calls Tryz.prog 14 #[.slice A0 l0.length c0,.slice A1 l1.length c1] w fun e w'=>e=.returned (.bool r)∧Below w.heap.size w w':=by
 have hu53:=Tryz.underlying53
 have HR0:=yaa.mk hr0
 have HC0:=yaa.mk hc0
 clear hr0 hc0
 have HR1:=yaa.mk hr1
 have HC1:=yaa.mk hc1
 clear hr1 hc1
 have HB:=yaa.mk (Below.refl w.heap.size w)
 have H:(if (l0.length:Int)=(l1.length:Int) then (ya2.l0 k l0 l1 0) else (some false))=some r:=h
 clear h
 by_cases c3:(l0.length:Int)=(l1.length:Int)
 ·rw[if_pos c3] at H
  have c3b0:((l0.length:Int) == (l1.length:Int))=true:=beq_iff_eq.mpr c3
  have c3b1:((l0.length:Int) != (l1.length:Int))=false:=bne_eq_false_iff_eq.mpr c3
  have c3b2:(l0.length == l1.length)=true:=by first|simpa using c3|(simp at c3 ⊢;omega)
  clear c3
  have H':=yaa.mk H
  clear H
  go_enter Tryz.func14,Tryz.ntmps14
  go_wp2
  go_loopg [5] k (fun kq v5 w'=>∃ (x5_1:Int),v5=.int .i64 x5_1∧yaa (ya2.l0 kq l0 l1 x5_1=some r)∧yaa (kq≤k)∧yaa (Below w.heap.size w w'))
  case atStart=>exact⟨(0),zF,H',⟨Nat.le_refl _⟩,⟨zB⟩⟩
  case round =>
   clear H'
   try clear c1
   try clear p2
   try clear c3
   try clear c3b0
   try clear c3b1
   try clear c3b2
   obtain⟨x5_1,rfl,HA,HK1,HB⟩:=hrel
   cases gk with
   | zero=>exact absurd HA.out (by simp [ya2.l0])
   | succ k1 =>
    have H:=HA.out
    clear HA
    simp only[ya2.l0] at H
    by_cases c4:x5_1<(l0.length:Int)
    ·rw[if_pos c4] at H
     have c4b0:=decide_eq_true c4
     clear c4
     by_cases c5:0≤x5_1
     ·rw[if_pos c5] at H
      have c5b0:=decide_eq_true c5
      clear c5
      by_cases c6:x5_1<(l1.length:Int)
      ·rw[if_pos c6] at H
       have c6b0:=decide_eq_true c6
       clear c6
       replace H:=Option.bind_eq_some_iff.mp H
       obtain⟨t944,A70,H⟩:=H
       try dsimp only at H
       have A7:=yaa.mk A70
       clear A70
       by_cases c8:t944=true
       ·subst c8
        have H1:(ya2.l0 k1 l0 l1 (wrap64 (x5_1+1)))=some r:=by rw[if_pos rfl] at H;exact H
        clear H
        have H:=H1
        clear H1
        have H':=yaa.mk H
        clear H
        try go_wp2
        have n0_:=yaa.mk (ydf HB.out)
        clear HB
        have HB:=n0_
        clear n0_
        have p942:0≤(x5_1:Int):=of_decide_eq_true zA
        have q942:x5_1<(l0.length:Int):=of_decide_eq_true zA
        obtain⟨ad942,A942_2,c942_2,e942,hx942_0,hx942_1,hx942_2,hl942_2,hi942_2⟩:=ye2 HR0.out x5_1 p942 q942
        have hw942_2:=hx942_2
        have hw942_1:=hx942_1
        have hw942_0:=hx942_0
        cases e942
        replace hx942_0:=(HB.out.cell (World.block_lt_of_cell? w _ hx942_0)).trans hx942_0
        replace hx942_1:=(HB.out.cell (World.block_lt_of_cell? w _ hx942_1)).trans hx942_1
        replace hx942_2:=(HB.out.cell (World.block_lt_of_cell? w _ hx942_2)).trans hx942_2
        have HR942_2:=yaa.mk hi942_2
        have HC942_2:=yaa.mk hl942_2
        clear hi942_2 hl942_2
        replace p942:=eq_true p942
        replace q942:=eq_true q942
        have p943:0≤(x5_1:Int):=of_decide_eq_true zA
        have q943:x5_1<(l1.length:Int):=of_decide_eq_true zA
        obtain⟨ad943,A943_2,c943_2,e943,hx943_0,hx943_1,hx943_2,hl943_2,hi943_2⟩:=ye2 HR1.out x5_1 p943 q943
        have hw943_2:=hx943_2
        have hw943_1:=hx943_1
        have hw943_0:=hx943_0
        cases e943
        replace hx943_0:=(HB.out.cell (World.block_lt_of_cell? w _ hx943_0)).trans hx943_0
        replace hx943_1:=(HB.out.cell (World.block_lt_of_cell? w _ hx943_1)).trans hx943_1
        replace hx943_2:=(HB.out.cell (World.block_lt_of_cell? w _ hx943_2)).trans hx943_2
        have HR943_2:=yaa.mk hi943_2
        have HC943_2:=yaa.mk hl943_2
        clear hi943_2 hl943_2
        replace p943:=eq_true p943
        replace q943:=eq_true q943
        refine ykk (n:=10) (S:=fun w'=>w'.cell? (ad942.add ((x5_1).toNat*3))=some (.bool ((yaj l0 x5_1).f0))∧w'.cell? ⟨(ad942.add ((x5_1).toNat*3)).block,(ad942.add ((x5_1).toNat*3)).off+1,none⟩=some (.int .i64 ((yaj l0 x5_1).f1))∧w'.cell? ⟨(ad942.add ((x5_1).toNat*3)).block,(ad942.add ((x5_1).toNat*3)).off+2,none⟩=some (.slice A942_2 ((yaj l0 x5_1).f2).length c942_2)∧w'.cell? (ad943.add ((x5_1).toNat*3))=some (.bool ((yaj l1 x5_1).f0))∧w'.cell? ⟨(ad943.add ((x5_1).toNat*3)).block,(ad943.add ((x5_1).toNat*3)).off+1,none⟩=some (.int .i64 ((yaj l1 x5_1).f1))∧w'.cell? ⟨(ad943.add ((x5_1).toNat*3)).block,(ad943.add ((x5_1).toNat*3)).off+2,none⟩=some (.slice A943_2 ((yaj l1 x5_1).f2).length c943_2)) (ds:=[]) #[false,false,false,false,false,false,false,false,false,false] (by kernel_rfl) rfl rfl ⟨((HB.out.cell (World.block_lt_of_cell? w _ hw942_0)).trans hw942_0),((HB.out.cell (World.block_lt_of_cell? w _ hw942_1)).trans hw942_1),((HB.out.cell (World.block_lt_of_cell? w _ hw942_2)).trans hw942_2),((HB.out.cell (World.block_lt_of_cell? w _ hw943_0)).trans hw943_0),((HB.out.cell (World.block_lt_of_cell? w _ hw943_1)).trans hw943_1),((HB.out.cell (World.block_lt_of_cell? w _ hw943_2)).trans hw943_2)⟩ (fun hHeld=>?_);refine yhx ya2.tab6 ya2.bits6 (fun HT_ HW_=>?_)
        generalize wr.drew=w9 at HB HR942_2 HR943_2 hx942_0 hx942_1 hx942_2 hx943_0 hx943_1 hx943_2 hHeld ⊢
        refine ycc (i:=0) (N:=some 17) (v:=?_) (a':=?_) #[true,false,false,false,false,false,false,false,false,false] rfl rfl (yby HT_.out (by kernel_rfl)) (fun _ _ _ h=>h) (Or.inl ⟨by rfl,?_⟩) ?_ ?_
        rotate_left
        ·intro w'
         go_simp
         with_reducible rfl
        rotate_left
        ·simp only[Act.put,List.setIfInBounds_toArray,List.set_cons_zero,List.set_cons_succ,ya4,yba]
         rfl
        refine ycc (i:=1) (N:=some 18) (v:=?_) (a':=?_) #[true,true,false,false,false,false,false,false,false,false] rfl rfl (yby HT_.out (by kernel_rfl)) (fun _ _ _ h=>h) (Or.inl ⟨by rfl,?_⟩) ?_ ?_
        rotate_left
        ·intro w'
         go_simp
         with_reducible rfl
        rotate_left
        ·simp only[Act.put,List.setIfInBounds_toArray,List.set_cons_zero,List.set_cons_succ,ya4,yba]
         rfl
        refine ycc (i:=2) (N:=some 19) (v:=?_) (a':=?_) #[true,true,true,false,false,false,false,false,false,false] rfl rfl (yby HT_.out (by kernel_rfl)) (fun _ _ _ h=>h) (Or.inl ⟨by rfl,?_⟩) ?_ ?_
        rotate_left
        ·intro w'
         go_simp
         with_reducible rfl
        rotate_left
        ·simp only[Act.put,List.setIfInBounds_toArray,List.set_cons_zero,List.set_cons_succ,ya4,yba]
         rfl
        refine ycc (i:=4) (N:=some 21) (v:=?_) (a':=?_) #[true,true,true,false,true,false,false,false,false,false] rfl rfl (yby HT_.out (by kernel_rfl)) (fun _ _ _ h=>h) (Or.inl ⟨by rfl,?_⟩) ?_ ?_
        rotate_left
        ·intro w'
         go_simp
         with_reducible rfl
        rotate_left
        ·simp only[Act.put,List.setIfInBounds_toArray,List.set_cons_zero,List.set_cons_succ,ya4,yba]
         rfl
        refine ycc (i:=5) (N:=some 22) (v:=?_) (a':=?_) #[true,true,true,false,true,true,false,false,false,false] rfl rfl (yby HT_.out (by kernel_rfl)) (fun _ _ _ h=>h) (Or.inl ⟨by rfl,?_⟩) ?_ ?_
        rotate_left
        ·intro w'
         go_simp
         with_reducible rfl
        rotate_left
        ·simp only[Act.put,List.setIfInBounds_toArray,List.set_cons_zero,List.set_cons_succ,ya4,yba]
         rfl
        refine ycc (i:=6) (N:=some 23) (v:=?_) (a':=?_) #[true,true,true,false,true,true,true,false,false,false] rfl rfl (yby HT_.out (by kernel_rfl)) (fun _ _ _ h=>h) (Or.inl ⟨by rfl,?_⟩) ?_ ?_
        rotate_left
        ·intro w'
         go_simp
         with_reducible rfl
        rotate_left
        ·simp only[Act.put,List.setIfInBounds_toArray,List.set_cons_zero,List.set_cons_succ,ya4,yba]
         rfl
        refine take_ (i:=3) (N:=some 20) (v:=?_) (a':=?_) #[true,true,true,true,true,true,true,false,false,false] rfl rfl (ygl HT_.out HW_.out (by kernel_rfl)) (fun _ _ _ h=>h) (Or.inl ⟨by rfl,?_⟩) hHeld ?_ ?_
        rotate_left
        ·rintro w' ⟨s0,s1,s2,s3,s4,s5⟩
         go_simp
         with_reducible rfl
        rotate_left
        ·simp only[Act.put,List.setIfInBounds_toArray,List.set_cons_zero,List.set_cons_succ,ya4,yba]
         rfl
        refine take_ (i:=7) (N:=some 24) (v:=?_) (a':=?_) #[true,true,true,true,true,true,true,true,false,false] rfl rfl (ygl HT_.out HW_.out (by kernel_rfl)) (fun _ _ _ h=>h) (Or.inl ⟨by rfl,?_⟩) hHeld ?_ ?_
        rotate_left
        ·rintro w' ⟨s0,s1,s2,s3,s4,s5⟩
         go_simp
         with_reducible rfl
        rotate_left
        ·simp only[Act.put,List.setIfInBounds_toArray,List.set_cons_zero,List.set_cons_succ,ya4,yba]
         rfl
        refine one_ (i:=8) (N:=some 25) #[true,true,true,true,true,true,true,true,true,false] rfl rfl (yhd HT_.out (by kernel_rfl)) (by decide) (fun K hK=>?_)
        refine goes_ Tryz.func37 (by kernel_rfl) rfl #[.agg #[.bool ((yaj l0 x5_1).f0),.int .i64 ((yaj l0 x5_1).f1),.slice A942_2 ((yaj l0 x5_1).f2).length c942_2],.agg #[.bool ((yaj l1 x5_1).f0),.int .i64 ((yaj l1 x5_1).f1),.slice A943_2 ((yaj l1 x5_1).f2).length c943_2]] (by rfl) rfl rfl zE ?_
        with_reducible refine(yev.calls k1 ((yaj l0 x5_1).f0) ((yaj l0 x5_1).f1) _ _ ((yaj l0 x5_1).f2) ((yaj l1 x5_1).f0) ((yaj l1 x5_1).f1) _ _ ((yaj l1 x5_1).f2) true _ ?side1 ?side2 ?side3 ?side4 A7.out).mono ?_
        (case side1=>exact zC (Kd.C_below HR942_2.out HB.out))
        (case side2=>exact HC942_2.out)
        (case side3=>exact zC (Kd.C_below HR943_2.out HB.out))
        (case side4=>exact HC943_2.out)
        rintro e w10 ⟨rfl,hb⟩
        refine⟨_,rfl,?_⟩
        have n0_:=yaa.mk (yai zB hb)
        clear HB
        have HB:=n0_
        clear n0_
        (try clear hb)
        (try clear hb2)
        (try clear hk)
        (try clear hi)
        refine hK.out _ _ ⟨((HB.out.cell (World.block_lt_of_cell? w _ hw942_0)).trans hw942_0),((HB.out.cell (World.block_lt_of_cell? w _ hw942_1)).trans hw942_1),((HB.out.cell (World.block_lt_of_cell? w _ hw942_2)).trans hw942_2),((HB.out.cell (World.block_lt_of_cell? w _ hw943_0)).trans hw943_0),((HB.out.cell (World.block_lt_of_cell? w _ hw943_1)).trans hw943_1),((HB.out.cell (World.block_lt_of_cell? w _ hw943_2)).trans hw943_2)⟩ (fun hHeld=>?_)
        clear hK K
        refine yjr (a':=?_) ?_ ?_
        rotate_left
        ·show Act.put _ (some 25) _=_
         simp only[Act.put,List.setIfInBounds_toArray,List.set_cons_zero,List.set_cons_succ,ya4,yba]
         rfl
        refine ycc (i:=9) (N:=some 26) (v:=?_) (a':=?_) #[true,true,true,true,true,true,true,true,true,true] rfl rfl (yby HT_.out (by kernel_rfl)) (fun _ _ _ h=>h) (Or.inl ⟨by rfl,?_⟩) ?_ ?_
        rotate_left
        ·intro w'
         go_simp
         with_reducible rfl
        rotate_left
        ·simp only[Act.put,List.setIfInBounds_toArray,List.set_cons_zero,List.set_cons_succ,ya4,yba]
         rfl
        refine done_ (yjd HT_.out (by kernel_rfl)) ?_
        try go_wp2
        go_roundg k1
        case measure=>have:=HK1.out;omega
        case rel=>exact⟨(wrap64 (x5_1+1)),zF,H',⟨by have:=HK1.out;omega⟩,⟨zB⟩⟩
       ·replace c8:=Bool.eq_false_iff.mpr c8
        subst c8
        have H1:(some false)=some r:=by rw[if_neg (show ¬ (false=true) by decide)] at H;exact H
        clear H
        have H:=H1
        clear H1
        obtain rfl:=Option.some.inj H
        try go_wp2
        have n0_:=yaa.mk (ydf HB.out)
        clear HB
        have HB:=n0_
        clear n0_
        have p942:0≤(x5_1:Int):=of_decide_eq_true zA
        have q942:x5_1<(l0.length:Int):=of_decide_eq_true zA
        obtain⟨ad942,A942_2,c942_2,e942,hx942_0,hx942_1,hx942_2,hl942_2,hi942_2⟩:=ye2 HR0.out x5_1 p942 q942
        have hw942_2:=hx942_2
        have hw942_1:=hx942_1
        have hw942_0:=hx942_0
        cases e942
        replace hx942_0:=(HB.out.cell (World.block_lt_of_cell? w _ hx942_0)).trans hx942_0
        replace hx942_1:=(HB.out.cell (World.block_lt_of_cell? w _ hx942_1)).trans hx942_1
        replace hx942_2:=(HB.out.cell (World.block_lt_of_cell? w _ hx942_2)).trans hx942_2
        have HR942_2:=yaa.mk hi942_2
        have HC942_2:=yaa.mk hl942_2
        clear hi942_2 hl942_2
        replace p942:=eq_true p942
        replace q942:=eq_true q942
        have p943:0≤(x5_1:Int):=of_decide_eq_true zA
        have q943:x5_1<(l1.length:Int):=of_decide_eq_true zA
        obtain⟨ad943,A943_2,c943_2,e943,hx943_0,hx943_1,hx943_2,hl943_2,hi943_2⟩:=ye2 HR1.out x5_1 p943 q943
        have hw943_2:=hx943_2
        have hw943_1:=hx943_1
        have hw943_0:=hx943_0
        cases e943
        replace hx943_0:=(HB.out.cell (World.block_lt_of_cell? w _ hx943_0)).trans hx943_0
        replace hx943_1:=(HB.out.cell (World.block_lt_of_cell? w _ hx943_1)).trans hx943_1
        replace hx943_2:=(HB.out.cell (World.block_lt_of_cell? w _ hx943_2)).trans hx943_2
        have HR943_2:=yaa.mk hi943_2
        have HC943_2:=yaa.mk hl943_2
        clear hi943_2 hl943_2
        replace p943:=eq_true p943
        replace q943:=eq_true q943
        refine ykk (n:=10) (S:=fun w'=>w'.cell? (ad942.add ((x5_1).toNat*3))=some (.bool ((yaj l0 x5_1).f0))∧w'.cell? ⟨(ad942.add ((x5_1).toNat*3)).block,(ad942.add ((x5_1).toNat*3)).off+1,none⟩=some (.int .i64 ((yaj l0 x5_1).f1))∧w'.cell? ⟨(ad942.add ((x5_1).toNat*3)).block,(ad942.add ((x5_1).toNat*3)).off+2,none⟩=some (.slice A942_2 ((yaj l0 x5_1).f2).length c942_2)∧w'.cell? (ad943.add ((x5_1).toNat*3))=some (.bool ((yaj l1 x5_1).f0))∧w'.cell? ⟨(ad943.add ((x5_1).toNat*3)).block,(ad943.add ((x5_1).toNat*3)).off+1,none⟩=some (.int .i64 ((yaj l1 x5_1).f1))∧w'.cell? ⟨(ad943.add ((x5_1).toNat*3)).block,(ad943.add ((x5_1).toNat*3)).off+2,none⟩=some (.slice A943_2 ((yaj l1 x5_1).f2).length c943_2)) (ds:=[]) #[false,false,false,false,false,false,false,false,false,false] (by kernel_rfl) rfl rfl ⟨((HB.out.cell (World.block_lt_of_cell? w _ hw942_0)).trans hw942_0),((HB.out.cell (World.block_lt_of_cell? w _ hw942_1)).trans hw942_1),((HB.out.cell (World.block_lt_of_cell? w _ hw942_2)).trans hw942_2),((HB.out.cell (World.block_lt_of_cell? w _ hw943_0)).trans hw943_0),((HB.out.cell (World.block_lt_of_cell? w _ hw943_1)).trans hw943_1),((HB.out.cell (World.block_lt_of_cell? w _ hw943_2)).trans hw943_2)⟩ (fun hHeld=>?_);refine yhx ya2.tab6 ya2.bits6 (fun HT_ HW_=>?_)
        generalize wr.drew=w11 at HB HR942_2 HR943_2 hx942_0 hx942_1 hx942_2 hx943_0 hx943_1 hx943_2 hHeld ⊢
        refine ycc (i:=0) (N:=some 17) (v:=?_) (a':=?_) #[true,false,false,false,false,false,false,false,false,false] rfl rfl (yby HT_.out (by kernel_rfl)) (fun _ _ _ h=>h) (Or.inl ⟨by rfl,?_⟩) ?_ ?_
        rotate_left
        ·intro w'
         go_simp
         with_reducible rfl
        rotate_left
        ·simp only[Act.put,List.setIfInBounds_toArray,List.set_cons_zero,List.set_cons_succ,ya4,yba]
         rfl
        refine ycc (i:=1) (N:=some 18) (v:=?_) (a':=?_) #[true,true,false,false,false,false,false,false,false,false] rfl rfl (yby HT_.out (by kernel_rfl)) (fun _ _ _ h=>h) (Or.inl ⟨by rfl,?_⟩) ?_ ?_
        rotate_left
        ·intro w'
         go_simp
         with_reducible rfl
        rotate_left
        ·simp only[Act.put,List.setIfInBounds_toArray,List.set_cons_zero,List.set_cons_succ,ya4,yba]
         rfl
        refine ycc (i:=2) (N:=some 19) (v:=?_) (a':=?_) #[true,true,true,false,false,false,false,false,false,false] rfl rfl (yby HT_.out (by kernel_rfl)) (fun _ _ _ h=>h) (Or.inl ⟨by rfl,?_⟩) ?_ ?_
        rotate_left
        ·intro w'
         go_simp
         with_reducible rfl
        rotate_left
        ·simp only[Act.put,List.setIfInBounds_toArray,List.set_cons_zero,List.set_cons_succ,ya4,yba]
         rfl
        refine ycc (i:=4) (N:=some 21) (v:=?_) (a':=?_) #[true,true,true,false,true,false,false,false,false,false] rfl rfl (yby HT_.out (by kernel_rfl)) (fun _ _ _ h=>h) (Or.inl ⟨by rfl,?_⟩) ?_ ?_
        rotate_left
        ·intro w'
         go_simp
         with_reducible rfl
        rotate_left
        ·simp only[Act.put,List.setIfInBounds_toArray,List.set_cons_zero,List.set_cons_succ,ya4,yba]
         rfl
        refine ycc (i:=5) (N:=some 22) (v:=?_) (a':=?_) #[true,true,true,false,true,true,false,false,false,false] rfl rfl (yby HT_.out (by kernel_rfl)) (fun _ _ _ h=>h) (Or.inl ⟨by rfl,?_⟩) ?_ ?_
        rotate_left
        ·intro w'
         go_simp
         with_reducible rfl
        rotate_left
        ·simp only[Act.put,List.setIfInBounds_toArray,List.set_cons_zero,List.set_cons_succ,ya4,yba]
         rfl
        refine ycc (i:=6) (N:=some 23) (v:=?_) (a':=?_) #[true,true,true,false,true,true,true,false,false,false] rfl rfl (yby HT_.out (by kernel_rfl)) (fun _ _ _ h=>h) (Or.inl ⟨by rfl,?_⟩) ?_ ?_
        rotate_left
        ·intro w'
         go_simp
         with_reducible rfl
        rotate_left
        ·simp only[Act.put,List.setIfInBounds_toArray,List.set_cons_zero,List.set_cons_succ,ya4,yba]
         rfl
        refine take_ (i:=3) (N:=some 20) (v:=?_) (a':=?_) #[true,true,true,true,true,true,true,false,false,false] rfl rfl (ygl HT_.out HW_.out (by kernel_rfl)) (fun _ _ _ h=>h) (Or.inl ⟨by rfl,?_⟩) hHeld ?_ ?_
        rotate_left
        ·rintro w' ⟨s0,s1,s2,s3,s4,s5⟩
         go_simp
         with_reducible rfl
        rotate_left
        ·simp only[Act.put,List.setIfInBounds_toArray,List.set_cons_zero,List.set_cons_succ,ya4,yba]
         rfl
        refine take_ (i:=7) (N:=some 24) (v:=?_) (a':=?_) #[true,true,true,true,true,true,true,true,false,false] rfl rfl (ygl HT_.out HW_.out (by kernel_rfl)) (fun _ _ _ h=>h) (Or.inl ⟨by rfl,?_⟩) hHeld ?_ ?_
        rotate_left
        ·rintro w' ⟨s0,s1,s2,s3,s4,s5⟩
         go_simp
         with_reducible rfl
        rotate_left
        ·simp only[Act.put,List.setIfInBounds_toArray,List.set_cons_zero,List.set_cons_succ,ya4,yba]
         rfl
        refine one_ (i:=8) (N:=some 25) #[true,true,true,true,true,true,true,true,true,false] rfl rfl (yhd HT_.out (by kernel_rfl)) (by decide) (fun K hK=>?_)
        refine goes_ Tryz.func37 (by kernel_rfl) rfl #[.agg #[.bool ((yaj l0 x5_1).f0),.int .i64 ((yaj l0 x5_1).f1),.slice A942_2 ((yaj l0 x5_1).f2).length c942_2],.agg #[.bool ((yaj l1 x5_1).f0),.int .i64 ((yaj l1 x5_1).f1),.slice A943_2 ((yaj l1 x5_1).f2).length c943_2]] (by rfl) rfl rfl zE ?_
        with_reducible refine(yev.calls k1 ((yaj l0 x5_1).f0) ((yaj l0 x5_1).f1) _ _ ((yaj l0 x5_1).f2) ((yaj l1 x5_1).f0) ((yaj l1 x5_1).f1) _ _ ((yaj l1 x5_1).f2) false _ ?side1 ?side2 ?side3 ?side4 A7.out).mono ?_
        (case side1=>exact zC (Kd.C_below HR942_2.out HB.out))
        (case side2=>exact HC942_2.out)
        (case side3=>exact zC (Kd.C_below HR943_2.out HB.out))
        (case side4=>exact HC943_2.out)
        rintro e w12 ⟨rfl,hb⟩
        refine⟨_,rfl,?_⟩
        have n0_:=yaa.mk (yai zB hb)
        clear HB
        have HB:=n0_
        clear n0_
        (try clear hb)
        (try clear hb2)
        (try clear hk)
        (try clear hi)
        refine hK.out _ _ ⟨((HB.out.cell (World.block_lt_of_cell? w _ hw942_0)).trans hw942_0),((HB.out.cell (World.block_lt_of_cell? w _ hw942_1)).trans hw942_1),((HB.out.cell (World.block_lt_of_cell? w _ hw942_2)).trans hw942_2),((HB.out.cell (World.block_lt_of_cell? w _ hw943_0)).trans hw943_0),((HB.out.cell (World.block_lt_of_cell? w _ hw943_1)).trans hw943_1),((HB.out.cell (World.block_lt_of_cell? w _ hw943_2)).trans hw943_2)⟩ (fun hHeld=>?_)
        clear hK K
        refine yjr (a':=?_) ?_ ?_
        rotate_left
        ·show Act.put _ (some 25) _=_
         simp only[Act.put,List.setIfInBounds_toArray,List.set_cons_zero,List.set_cons_succ,ya4,yba]
         rfl
        refine ycc (i:=9) (N:=some 26) (v:=?_) (a':=?_) #[true,true,true,true,true,true,true,true,true,true] rfl rfl (yby HT_.out (by kernel_rfl)) (fun _ _ _ h=>h) (Or.inl ⟨by rfl,?_⟩) ?_ ?_
        rotate_left
        ·intro w'
         go_simp
         with_reducible rfl
        rotate_left
        ·simp only[Act.put,List.setIfInBounds_toArray,List.set_cons_zero,List.set_cons_succ,ya4,yba]
         rfl
        refine done_ (yjd HT_.out (by kernel_rfl)) ?_
        try go_wp2
        go_ret
        exact⟨zG,zB⟩
      ·rw[if_neg c6] at H
       exact absurd H (by simp)
     ·rw[if_neg c5] at H
      exact absurd H (by simp)
    ·rw[if_neg c4] at H
     have c4b0:=decide_eq_false c4
     clear c4
     obtain rfl:=Option.some.inj H
     go_wp2
     go_ret
     exact⟨zG,zB⟩
 ·rw[if_neg c3] at H
  have c3b0:((l0.length:Int) == (l1.length:Int))=false:=beq_eq_false_iff_ne.mpr c3
  have c3b1:((l0.length:Int) != (l1.length:Int))=true:=bne_iff_ne.mpr c3
  have c3b2:(l0.length == l1.length)=false:=by first|simpa using c3|(simp at c3 ⊢;omega)
  obtain rfl:=Option.some.inj H
  go_enter Tryz.func14,Tryz.ntmps14
  go_wp2
  go_ret
  exact⟨zG,zB⟩
end Go.Proofs.YteeikgjjgfdjgaaGreat.PK
end
section
namespace Go.Proofs.YteeikgjjgfdjgaaGreat.PK
open Go.RowKit YteeikgjjgfdjgaaGreatW.PrintWords YteeikgjjgfdjgaaGreatW.PrintLast YteeikgjjgfdjgaaGreatW.PrintMore
attribute [local go_sem] yco ycp yc5 yc4 yck ycl ycs yct
set_option linter.unusedVariables false
set_option linter.unusedSimpArgs false
mutual
def stoaref11_text.j0:Nat→List Int→List Int→Bool→Int→Int→Int→Bool→Option (List Int×Int×Int)
 | 0,_,_,_,_,_,_,_=>none
 | k+1,x0,x2,x3,x11,x14,x15,x49=>if x49=true then (some (([]:List Int),0,5)) else (if x14 > 200 then (stoaref11_text.j1 k x0 x2 x3 x11 x14 x15 true) else (stoaref11_text.j1 k x0 x2 x3 x11 x14 x15 (decide ((IntKind.u64.wrap (x11+x14)) > 200))))
def stoaref11_text.j1:Nat→List Int→List Int→Bool→Int→Int→Int→Bool→Option (List Int×Int×Int)
 | 0,_,_,_,_,_,_,_=>none
 | k+1,x0,x2,x3,x11,x14,x15,x57=>if x57=true then (some (([]:List Int),0,4)) else (if x14 > (IntKind.u64.wrap (wrap64 ((x0.length:Int)-x15))) then (some (([]:List Int),0,2)) else ((yec.f k x2 0 (wrap64 (x11))).bind fun t796=>((yec.f k x0 x15 (wrap64 (x15+(wrap64 (x14))))).bind fun t799=>((yam.f k t796 t799).bind fun t802=>(if x3=true then (some (t802,wrap64 (x15+(wrap64 (x14))),0)) else ((ybt.f k x2 t802).bind fun t805=>(if t805 > (wrap64 (x11)) then (some (([]:List Int),0,5)) else (some (t802,wrap64 (x15+(wrap64 (x14))),0)))))))))
end
mutual
def stoaref01_Intact.l0:Nat→List Int→List Int→Int→Option (Bool)
 | 0,_,_,_=>none
 | k+1,x0,x1,x5=>if x5<(x1.length:Int) then (if 0≤x5 then (if x5<(x0.length:Int) then (if (rd x0 x5)=(rd x1 x5) then (stoaref01_Intact.l0 k x0 x1 (wrap64 (x5+1))) else (some false)) else (none)) else (none)) else (stoaref01_Intact.l1 k x0 x1 0)
def stoaref01_Intact.l1:Nat→List Int→List Int→Int→Option (Bool)
 | 0,_,_,_=>none
 | k+1,x0,x1,x6=>if x6<64 then (if 0≤(wrap64 ((x1.length:Int)+x6)) then (if (wrap64 ((x1.length:Int)+x6))<(x0.length:Int) then (if (rd x0 (wrap64 ((x1.length:Int)+x6)))=((wrap64 (192+(Int.tmod x6 7)))%256) then (stoaref01_Intact.l1 k x0 x1 (wrap64 (x6+1))) else (some false)) else (none)) else (none)) else (some true)
end
end Go.Proofs.YteeikgjjgfdjgaaGreat.PK
end
