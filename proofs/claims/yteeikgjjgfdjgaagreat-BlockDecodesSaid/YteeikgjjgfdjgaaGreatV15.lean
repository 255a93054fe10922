/-
  Parts of the proof: E20.
-/
import Derived.Test.YteeikgjjgfdjgaaGreatV7
import Derived.Test.YteeikgjjgfdjgaaGreatV6
set_option maxHeartbeats 8000000
set_option maxRecDepth 100000
section
namespace Go.Proofs.YteeikgjjgfdjgaaGreat.PK
open Go.RowKit YteeikgjjgfdjgaaGreatW.PrintWords YteeikgjjgfdjgaaGreatW.PrintLast YteeikgjjgfdjgaaGreatW.PrintMore
attribute [local go_sem] yce ycf ycu ycv yb8 yb7 ycm yco
set_option linter.unusedVariables false
set_option linter.unusedSimpArgs false
mutual
def yag.j0:Nat→List Int→Int→Int→List Int→Option (List Int)
 | 0,_,_,_,_=>none
 | k+1,x0,x1,x2,x7=>yag.l0 k x0 x2 x7 x1
def yag.l0:Nat→List Int→Int→List Int→Int→Option (List Int)
 | 0,_,_,_,_=>none
 | k+1,x0,x2,x7,x8=>if x8<(x0.length:Int) then (if x8<x2 then (if 0≤x8 then (if x7.length<140737488355328 then (yag.l0 k x0 x2 (x7++[rd x0 x8]) (wrap64 (x8+1))) else (none)) else (none)) else (some x7)) else (some x7)
end
def yag.f (k:Nat) (l0:List Int) (a1:Int) (a2:Int):Option (List Int):=(some (([]:List Int):List Int)).bind fun y611=>(if a1<0 then (yag.j0 k l0 0 a2 y611) else (yag.j0 k l0 a1 a2 y611))
theorem yag.calls (k:Nat) (A0:Option Addr) (c0:Nat) (l0:List Int) (a1:Int) (a2:Int) (r:List Int) (w:World) (hr0:Kd.C (Kd.int .u8) w A0 l0.length l0) (hc0:l0.length≤c0) (h:yag.f k l0 a1 a2=some r) :
  Calls Tryz.prog 43 #[.slice A0 l0.length c0,.int .i64 a1,.int .i64 a2] w fun e w'=>∃ v0_:Value,e=.returned (v0_)∧Kd.R (Kd.int .u8) 5 w' w.heap.size (fun _=>True) v0_ r∧Below w.heap.size w w':=by
 have HR0:=yaa.mk hr0
 have HC0:=yaa.mk hc0
 clear hr0 hc0
 have HB:=yaa.mk (Below.refl w.heap.size w)
 have H:((some (([]:List Int):List Int)).bind fun y611=>(if a1<0 then (yag.j0 k l0 0 a2 y611) else (yag.j0 k l0 a1 a2 y611)))=some r:=h
 clear h
 obtain⟨y611,hy611⟩:∃ y_:List Int,y_=(([]:List Int)):=⟨_,rfl⟩
 replace H:(if a1<0 then (yag.j0 k l0 0 a2 y611) else (yag.j0 k l0 a1 a2 y611))=some r:=by first|(rw[hy611];with_reducible exact H)|(have H2_:=(Option.bind_some _ _).symm.trans H;rw[hy611];with_reducible exact H2_)|(have H2_:=(Option.bind_some _ _).symm.trans H;with_reducible exact H2_)|with_reducible exact H|(rw[hy611];exact H)|exact H
 have Ny611:=yaa.mk hy611
 clear hy611
 have HC4:=yaa.mk H
 clear H
 go_enter Tryz.func43,Tryz.ntmps43
 go_upto_if 11 with (first|((with_reducible refine yb1 (N:=9) rfl ?_);refine Kd.R_lit (Kd.int .u8) _ 5 ?hg (N:=9) ?hd (xs:=([]:List Int)) (inner:=[]) (ok:=fun _=>True) (okp:=fun _=>True) ?hr ?hp (fun _ hk=>hk) trivial (Below.refl _ _) (Nat.le_refl _) (by simp) ?_;(case hd=>rfl);(case hg=>rfl);(case hr=>first|(go_simp;done)|(go_simp;rfl));(case hp=>exact(Reps.none _ _));intro v612 w5 ho6 hb hg_ hnew_;clear hg_ hnew_;(first|rw[← Ny611.out] at ho6|(simp only[Int.reduceToNat] at ho6;rw[← Ny611.out] at ho6));have n0_:=yaa.mk (Kd.R_lower ho6 (yaf zB));have n1_:=yaa.mk (yai zB hb);clear HB;have HO613:=n0_;have HB:=n1_;clear n0_ n1_;clear hb ho6))
 (try simp only[Act.put,List.setIfInBounds_toArray,List.set_cons_zero,List.set_cons_succ])
 go_cut [1] (fun v1 wc=>∃ (kq:Nat) (x1_3:Int),v1=.int .i64 x1_3∧yaa (yag.j0 kq l0 x1_3 a2 y611=some r)∧yaa (kq≤k)∧yaa (Kd.R (Kd.int .u8) 5 wc w.heap.size (fun _=>True) v612 y611)∧yaa (Below w.heap.size w wc))
 case first =>
  have H:=HC4.out
  clear HC4
  by_cases c7:a1<0
  ·rw[if_pos c7] at H
   have c7b0:=decide_eq_true c7
   clear c7
   (first|rw[c7b0]|(simp only[ybz,ycs];rw[c7b0])|skip)
   have H':=yaa.mk H
   clear H
   go_wp2
   go_meet
   case rel=>exact⟨_,(0),zF,H',⟨by first|omega|exact Nat.le_refl _⟩,⟨zR HO613.out⟩,⟨zB⟩⟩
  ·rw[if_neg c7] at H
   have c7b0:=decide_eq_false c7
   clear c7
   (first|rw[c7b0]|(simp only[ybz,ycs];rw[c7b0])|skip)
   have H':=yaa.mk H
   clear H
   go_wp2
   go_meet
   case rel=>exact⟨_,(a1),zF,H',⟨by first|omega|exact Nat.le_refl _⟩,⟨zR HO613.out⟩,⟨zB⟩⟩
 case rest =>
  clear HC4
  try clear p2
  try clear c4
  try clear c7
  try clear c7b0
  obtain⟨kq,x1_3,rfl,HA,HJ3,HO_7,HB⟩:=hcut
  cases kq with
  | zero=>exact absurd HA.out (by simp [yag.j0])
  | succ kj3 =>
   have H:=HA.out
   clear HA
   simp only[yag.j0] at H
   have H':=yaa.mk H
   clear H
   go_wp2
   go_loopg [7,8] kj3 (fun kq v7 v8 w'=>∃ (x7_2:List Int) (x8_2:Int),v8=.int .i64 x8_2∧yaa (yag.l0 kq l0 a2 x7_2 x8_2=some r)∧yaa (kq≤kj3)∧yaa (Kd.R (Kd.int .u8) 5 w' w.heap.size (fun _=>True) v7 x7_2)∧yaa (Below w.heap.size w w'))
   case atStart=>exact⟨(y611),(x1_3),zF,H',⟨Nat.le_refl _⟩,⟨zR HO_7.out⟩,⟨zB⟩⟩
   case round =>
    clear H'
    try clear p2
    try clear c4
    try clear c7
    try clear c7b0
    try clear p2
    obtain⟨x7_2,x8_2,rfl,HA,HK2,HO_7,HB⟩:=hrel
    cases gk with
    | zero=>exact absurd HA.out (by simp [yag.l0])
    | succ k2 =>
     have H:=HA.out
     clear HA
     simp only[yag.l0] at H
     by_cases c8:x8_2<(l0.length:Int)
     ·rw[if_pos c8] at H
      have c8b0:=decide_eq_true c8
      clear c8
      by_cases c9:x8_2<a2
      ·rw[if_pos c9] at H
       have c9b0:=decide_eq_true c9
       clear c9
       by_cases c10:0≤x8_2
       ·rw[if_pos c10] at H
        have c10b0:=decide_eq_true c10
        clear c10
        by_cases c11:x7_2.length<140737488355328
        ·rw[if_pos c11] at H
         have LMc11:=yaa.mk c11
         clear c11
         obtain⟨y615,hy615⟩:∃ y_:List Int,y_=(x7_2++[rd l0 x8_2]):=⟨_,rfl⟩
         replace H:(yag.l0 k2 l0 a2 y615 (wrap64 (x8_2+1)))=some r:=by first|(rw[hy615];with_reducible exact H)|(have H2_:=(Option.bind_some _ _).symm.trans H;rw[hy615];with_reducible exact H2_)|(have H2_:=(Option.bind_some _ _).symm.trans H;with_reducible exact H2_)|with_reducible exact H|(rw[hy615];exact H)|exact H
         have Ny615:=yaa.mk hy615
         clear hy615
         have H':=yaa.mk H
         clear H
         have p614:0≤(x8_2:Int):=of_decide_eq_true zA
         have q614:x8_2<(l0.length:Int):=of_decide_eq_true zA
         obtain⟨ad614,e614,hx614_0⟩:=Kd.at_int HR0.out x8_2 p614 q614
         cases e614
         replace hx614_0:=(HB.out.cell (World.block_lt_of_cell? w _ hx614_0)).trans hx614_0
         replace p614:=eq_true p614
         replace q614:=eq_true q614
         go_wp2_with (first|((with_reducible refine ybm (b:=.append) (xs:=#[.tmp 24,.tmp 29]) rfl ?_);at_builtin;refine Kd.R_append (Kd.int .u8) (w0:=w) w.heap.size rfl (.tmp 24) (.tmp 29) 25 5 (.int .u8 0) 1 rfl Tryz.underlying25 ycj rfl (by decide) (by omega) u7 x7_2 (rd l0 x8_2) [.int .u8 (rd l0 x8_2)] (fun _=>True) (fun _=>False) rfl rfl ?aP (fun _ hk=>hk.elim) ?aF ?aO ?aB ?aS ?aL ?_;(case aP=>exact rfl);(case aB=>exact zB);(case aF=>exact fun _ _=>trivial);(case aO=>exact(zR HO_7.out));(case aS=>exact(yaf zB));(case aL=>have:=LMc11.out;omega);intro v616 w12 ho hb hg hat;rw[← Ny615.out] at ho;have n0_:=yaa.mk (hb);have n1_:=yaa.mk (ho);clear HB;clear HO_7;have HB:=n0_;have HO617:=n1_;clear n0_ n1_;clear ho hb hg hat))
         go_roundg k2
         case measure=>have:=HJ3.out;have:=HK2.out;omega
         case rel=>exact⟨(y615),(wrap64 (x8_2+1)),zF,H',⟨by have:=HJ3.out;have:=HK2.out;omega⟩,⟨zR HO617.out⟩,⟨zB⟩⟩
        ·rw[if_neg c11] at H
         exact absurd H (by simp)
       ·rw[if_neg c10] at H
        exact absurd H (by simp)
      ·rw[if_neg c9] at H
       have c9b0:=decide_eq_false c9
       clear c9
       obtain rfl:=Option.some.inj H
       go_wp2
       go_ret
       exact⟨_,zG,zR HO_7.out,zB⟩
     ·rw[if_neg c8] at H
      have c8b0:=decide_eq_false c8
      clear c8
      obtain rfl:=Option.some.inj H
      go_wp2
      go_ret
      exact⟨_,zG,zR HO_7.out,zB⟩
mutual
def ya1.j0:Nat→List Int→Int→Int→Bool→Option (Int×Bool)
 | 0,_,_,_,_=>none
 | k+1,x0,x1,x2,x25=>if x25=true then (some (0,false)) else (ya1.l0 k x0 x1 0 (wrap64 (x2-1)))
def ya1.l0:Nat→List Int→Int→Int→Int→Option (Int×Bool)
 | 0,_,_,_,_=>none
 | k+1,x0,x1,x8,x9=>if x9≥0 then (if 0≤(wrap64 (x1+x9)) then (if (wrap64 (x1+x9))<(x0.length:Int) then (ya1.l0 k x0 x1 (IntKind.u64.wrap ((IntKind.u64.wrap (x8*256))+(IntKind.u64.wrap (rd x0 (wrap64 (x1+x9)))))) (wrap64 (x9-1))) else (none)) else (none)) else (some (x8,true))
end
def ya1.f (k:Nat) (l0:List Int) (a1:Int) (a2:Int):Option (Int×Bool):=if a1<0 then (ya1.j0 k l0 a1 a2 true) else (if a2 > (l0.length:Int) then (ya1.j0 k l0 a1 a2 true) else (ya1.j0 k l0 a1 a2 (decide (a1 > (wrap64 ((l0.length:Int)-a2))))))
theorem ya1.calls (k:Nat) (A0:Option Addr) (c0:Nat) (l0:List Int) (a1:Int) (a2:Int) (r1:Int) (r2:Bool) (w:World) (hr0:Kd.C (Kd.int .u8) w A0 l0.length l0) (hc0:l0.length≤c0) (h:ya1.f k l0 a1 a2=some (r1,r2)) :
  Calls Tryz.prog 72 #[.slice A0 l0.length c0,.int .i64 a1,.int .i64 a2] w fun e w'=>e=.returned (.tuple #[.int .u64 r1,.bool r2])∧yap w w':=by
 have HR0:=yaa.mk hr0
 have HC0:=yaa.mk hc0
 clear hr0 hc0
 have H:(if a1<0 then (ya1.j0 k l0 a1 a2 true) else (if a2 > (l0.length:Int) then (ya1.j0 k l0 a1 a2 true) else (ya1.j0 k l0 a1 a2 (decide (a1 > (wrap64 ((l0.length:Int)-a2)))))))=some (r1,r2):=h
 clear h
 have HC4:=yaa.mk H
 clear H
 go_enter Tryz.func72,Tryz.ntmps72
 go_upto_region 1 with (fail)
 go_cut [25] (fun v25 wc=>∃ (kq:Nat) (x25_3:Bool),v25=.bool x25_3∧yaa (ya1.j0 kq l0 a1 a2 x25_3=some (r1,r2))∧yaa (kq≤k)∧yap w wc)
 case first =>
  have H:=HC4.out
  clear HC4
  by_cases c5:a1<0
  ·rw[if_pos c5] at H
   have c5b0:=decide_eq_true c5
   clear c5
   (first|rw[c5b0]|(simp only[ybz,ycs];rw[c5b0])|skip)
   have H':=yaa.mk H
   clear H
   go_wp2
   go_meet
   case rel=>exact⟨_,(true),zF,H',⟨by first|omega|exact Nat.le_refl _⟩,zD⟩
  ·rw[if_neg c5] at H
   have c5b0:=decide_eq_false c5
   clear c5
   (first|rw[c5b0]|(simp only[ybz,ycs];rw[c5b0])|skip)
   by_cases c6:a2 > (l0.length:Int)
   ·rw[if_pos c6] at H
    have c6b0:decide ((l0.length:Int)<a2)=true:=decide_eq_true c6
    clear c6
    have H':=yaa.mk H
    clear H
    go_wp2
    go_meet
    case rel=>exact⟨_,(true),zF,H',⟨by first|omega|exact Nat.le_refl _⟩,zD⟩
   ·rw[if_neg c6] at H
    have c6b0:decide ((l0.length:Int)<a2)=false:=decide_eq_false c6
    clear c6
    have H':=yaa.mk H
    clear H
    go_wp2
    go_meet
    case rel=>exact⟨_,(decide (a1 > (wrap64 ((l0.length:Int)-a2)))),zF,H',⟨by first|omega|exact Nat.le_refl _⟩,zD⟩
 case rest =>
  clear HC4
  try clear p2
  try clear c5
  try clear c5b0
  try clear c6
  try clear c6b0
  try clear p6
  obtain⟨kq,x25_3,rfl,HA,HJ3,⟨mc3,rfl⟩⟩:=hcut
  cases kq with
  | zero=>exact absurd HA.out (by simp [ya1.j0])
  | succ kj3 =>
   have H:=HA.out
   clear HA
   simp only[ya1.j0] at H
   by_cases c7:x25_3=true
   ·subst c7
    have H1:(some (0,false))=some (r1,r2):=by rw[if_pos rfl] at H;exact H
    clear H
    have H:=H1
    clear H1
    simp only[Option.some.injEq,Prod.mk.injEq] at H
    obtain⟨rfl,rfl⟩:=H
    go_wp2
    go_ret2
    exact⟨zF,zD⟩
   ·replace c7:=Bool.eq_false_iff.mpr c7
    subst c7
    have H1:(ya1.l0 kj3 l0 a1 0 (wrap64 (a2-1)))=some (r1,r2):=by rw[if_neg (show ¬ (false=true) by decide)] at H;exact H
    clear H
    have H:=H1
    clear H1
    have H':=yaa.mk H
    clear H
    go_wp2
    go_loopg [8,9] kj3 (fun kq v8 v9 w'=>∃ (x8_2:Int) (x9_2:Int),v8=.int .u64 x8_2∧v9=.int .i64 x9_2∧yaa (ya1.l0 kq l0 a1 x8_2 x9_2=some (r1,r2))∧yaa (kq≤kj3)∧yap w w')
    case atStart=>exact⟨(0),(wrap64 (a2-1)),zF,zF,H',⟨Nat.le_refl _⟩,zD⟩
    case round =>
     clear H'
     try clear p2
     try clear c3
     try clear c5
     try clear c5b0
     try clear c6
     try clear c6b0
     try clear p6
     try clear c7
     try clear p2
     try clear p6
     obtain⟨x8_2,x9_2,rfl,rfl,HA,HK2,⟨m2,rfl⟩⟩:=hrel
     cases gk with
     | zero=>exact absurd HA.out (by simp [ya1.l0])
     | succ k2 =>
      have H:=HA.out
      clear HA
      simp only[ya1.l0] at H
      by_cases c8:x9_2≥0
      ·rw[if_pos c8] at H
       have c8b0:decide (0≤x9_2)=true:=decide_eq_true c8
       clear c8
       obtain⟨ji9,hji9⟩:∃ j_:Int,(wrap64 (a1+x9_2))=j_:=⟨_,rfl⟩
       replace H:(if 0≤(ji9) then (if (ji9)<(l0.length:Int) then (ya1.l0 k2 l0 a1 (IntKind.u64.wrap ((IntKind.u64.wrap (x8_2*256))+(IntKind.u64.wrap (rd l0 (ji9))))) (wrap64 (x9_2-1))) else (none)) else (none))=some (r1,r2):=by first|(rw[hji9] at H;exact H)|(simp only[hji9] at H ⊢;exact H)
       have hji9w:(IntKind.i64.wrap (a1+x9_2))=ji9:=(ybz _).trans hji9
       by_cases c10:0≤(ji9)
       ·rw[if_pos c10] at H
        have c10b0:=decide_eq_true c10
        clear c10
        by_cases c11:(ji9)<(l0.length:Int)
        ·rw[if_pos c11] at H
         have c11b0:=decide_eq_true c11
         clear c11
         have H':=yaa.mk H
         clear H
         have p618:0≤((ji9):Int):=of_decide_eq_true zA
         have q618:(ji9)<(l0.length:Int):=of_decide_eq_true zA
         obtain⟨ad618,e618,hx618_0⟩:=Kd.at_int HR0.out (ji9) p618 q618
         cases e618
         replace p618:=eq_true p618
         replace q618:=eq_true q618
         go_wp2
         go_roundg k2
         case measure=>have:=HJ3.out;have:=HK2.out;omega
         case rel=>exact⟨(IntKind.u64.wrap ((IntKind.u64.wrap (x8_2*256))+(IntKind.u64.wrap (rd l0 (ji9))))),(wrap64 (x9_2-1)),(by first|rfl|(simp;done)|(simp only[← hji9] <;> (first|rfl|simp))|(simp [*];done)),zF,H',⟨by have:=HJ3.out;have:=HK2.out;omega⟩,zD⟩
        ·rw[if_neg c11] at H
         exact absurd H (by simp)
       ·rw[if_neg c10] at H
        exact absurd H (by simp)
      ·rw[if_neg c8] at H
       have c8b0:decide (0≤x9_2)=false:=decide_eq_false c8
       clear c8
       simp only[Option.some.injEq,Prod.mk.injEq] at H
       obtain⟨rfl,rfl⟩:=H
       go_wp2
       go_ret2
       exact⟨zF,zD⟩
def yeo.f (k:Nat) (l0:List Int):Option (Bool):=if (wrap64 ((l0.length:Int)-4))<0 then (some false) else ((ya1.f k l0 (wrap64 ((l0.length:Int)-4)) 4).bind fun bt619=>(if bt619.2=true then ((yag.f k l0 0 (wrap64 ((l0.length:Int)-4))).bind fun t621=>((ya6.f k t621).bind fun t624=>(some (bt619.1 == (IntKind.u64.wrap (t624)))))) else (some false)))
theorem yeo.calls (k:Nat) (A0:Option Addr) (c0:Nat) (l0:List Int) (r:Bool) (w:World) (hr0:Kd.C (Kd.int .u8) w A0 l0.length l0) (hc0:l0.length≤c0) (h:yeo.f k l0=some r) :
  Calls Tryz.prog 42 #[.slice A0 l0.length c0] w fun e w'=>e=.returned (.bool r)∧Below w.heap.size w w':=by
 have HR0:=yaa.mk hr0
 have HC0:=yaa.mk hc0
 clear hr0 hc0
 have HB:=yaa.mk (Below.refl w.heap.size w)
 have H:(if (wrap64 ((l0.length:Int)-4))<0 then (some false) else ((ya1.f k l0 (wrap64 ((l0.length:Int)-4)) 4).bind fun bt619=>(if bt619.2=true then ((yag.f k l0 0 (wrap64 ((l0.length:Int)-4))).bind fun t621=>((ya6.f k t621).bind fun t624=>(some (bt619.1 == (IntKind.u64.wrap (t624)))))) else (some false))))=some r:=h
 clear h
 by_cases c2:(wrap64 ((l0.length:Int)-4))<0
 ·rw[if_pos c2] at H
  have c2b0:=decide_eq_true c2
  clear c2
  obtain rfl:=Option.some.inj H
  go_enter Tryz.func42,Tryz.ntmps42
  go_wp2
  go_ret
  exact⟨zG,zB⟩
 ·rw[if_neg c2] at H
  have c2b0:=decide_eq_false c2
  clear c2
  replace H:=Option.bind_eq_some_iff.mp H
  obtain⟨⟨t619,t620⟩,A30,H⟩:=H
  try dsimp only at H
  have A3:=yaa.mk A30
  clear A30
  by_cases c4:t620=true
  ·subst c4
   have H1:((yag.f k l0 0 (wrap64 ((l0.length:Int)-4))).bind fun t621=>((ya6.f k t621).bind fun t624=>(some (t619 == (IntKind.u64.wrap (t624))))))=some r:=by rw[if_pos rfl] at H;exact H
   clear H
   have H:=H1
   clear H1
   replace H:=Option.bind_eq_some_iff.mp H
   obtain⟨t621,A50,H⟩:=H
   try dsimp only at H
   have A5:=yaa.mk A50
   clear A50
   replace H:=Option.bind_eq_some_iff.mp H
   obtain⟨t624,A60,H⟩:=H
   try dsimp only at H
   have A6:=yaa.mk A60
   clear A60
   obtain rfl:=Option.some.inj H
   go_enter Tryz.func42,Tryz.ntmps42
   go_wp2_with (first|((with_reducible refine yad (f:=72) rfl ?_);refine yak (some 14) rfl rfl Tryz.func72 (by kernel_rfl) rfl #[.slice A0 l0.length c0,.int .i64 (wrap64 ((l0.length:Int)-4)),.int .i64 4] rfl zE ?_;(with_reducible refine(ya1.calls k _ _ l0 (wrap64 ((l0.length:Int)-4)) 4 t619 true _ ?side1 ?side2 A3.out).mono ?_);(case side1=>exact zC HR0.out);(case side2=>exact HC0.out);rintro e w' ⟨rfl,⟨nd,rfl⟩⟩;refine⟨_,rfl,?_⟩)|(go_at_call 43;(with_reducible refine(yag.calls k _ _ l0 0 (wrap64 ((l0.length:Int)-4)) t621 _ ?side1 ?side2 A5.out).mono ?_);(case side1=>exact zC HR0.out);(case side2=>exact HC0.out);rintro e w7 ⟨v622,rfl,ho0,hb⟩;have n0_:=yaa.mk (Kd.R_lower ho0 (yaf zB));have n1_:=yaa.mk (yai zB hb);clear HB;have HO623:=n0_;have HB:=n1_;clear n0_ n1_;(try clear hb);(try clear hb2);(try clear hk);(try clear hi);(try clear ho0);obtain⟨Ao8,co8,eo8⟩:=Kd.R_slice HO623.out;subst eo8)|(go_at_call 49;(with_reducible refine(ya6.calls k _ _ t621 t624 _ ?side1 ?side2 A6.out).mono ?_);(case side1=>exact zC (Kd.R_reads' HO623.out).2.2);(case side2=>exact(Kd.R_reads' HO623.out).2.1);rintro e w' ⟨rfl,⟨nd,rfl⟩⟩))
   go_ret
   exact⟨zG,zB⟩
  ·replace c4:=Bool.eq_false_iff.mpr c4
   subst c4
   have H1:(some false)=some r:=by rw[if_neg (show ¬ (false=true) by decide)] at H;exact H
   clear H
   have H:=H1
   clear H1
   obtain rfl:=Option.some.inj H
   go_enter Tryz.func42,Tryz.ntmps42
   go_wp2_with (first|((with_reducible refine yad (f:=72) rfl ?_);refine yak (some 14) rfl rfl Tryz.func72 (by kernel_rfl) rfl #[.slice A0 l0.length c0,.int .i64 (wrap64 ((l0.length:Int)-4)),.int .i64 4] rfl zE ?_;(with_reducible refine(ya1.calls k _ _ l0 (wrap64 ((l0.length:Int)-4)) 4 t619 false _ ?side1 ?side2 A3.out).mono ?_);(case side1=>exact zC HR0.out);(case side2=>exact HC0.out);rintro e w' ⟨rfl,⟨nd,rfl⟩⟩;refine⟨_,rfl,?_⟩))
   go_ret
   exact⟨zG,zB⟩
mutual
def yac.j0:Nat→List Int→Int→Bool→Option (Int×Int×Int)
 | 0,_,_,_=>none
 | k+1,x0,x1,x18=>if x18=true then (some (0,0,1)) else (yac.l0 k x0 x1 0 1 x1)
def yac.l0:Nat→List Int→Int→Int→Int→Int→Option (Int×Int×Int)
 | 0,_,_,_,_,_=>none
 | k+1,x0,x1,x7,x8,x9=>if x9<(x0.length:Int) then (if 0≤x9 then (if (wrap64 (x9-x1))=9 then (yac.j2 k x0 x1 x7 x8 x9 (IntKind.u64.wrap (rd x0 x9)) (decide ((IntKind.u64.wrap (rd x0 x9)) > 1))) else (yac.j2 k x0 x1 x7 x8 x9 (IntKind.u64.wrap (rd x0 x9)) false)) else (none)) else (some (0,0,2))
def yac.j2:Nat→List Int→Int→Int→Int→Int→Int→Bool→Option (Int×Int×Int)
 | 0,_,_,_,_,_,_,_=>none
 | k+1,x0,x1,x7,x8,x9,x10,x38=>if x38=true then (some (0,0,20)) else (if x10<128 then (if x10=0 then (if x9 > x1 then (some (0,0,5)) else (some (IntKind.u64.wrap (x7+(IntKind.u64.wrap ((Int.tmod x10 128)*x8))),wrap64 (x9+1),0))) else (some (IntKind.u64.wrap (x7+(IntKind.u64.wrap ((Int.tmod x10 128)*x8))),wrap64 (x9+1),0))) else (yac.l0 k x0 x1 (IntKind.u64.wrap (x7+(IntKind.u64.wrap ((Int.tmod x10 128)*x8)))) (IntKind.u64.wrap (x8*128)) (wrap64 (x9+1))))
end
def yac.f (k:Nat) (l0:List Int) (a1:Int):Option (Int×Int×Int):=if a1<0 then (yac.j0 k l0 a1 true) else (yac.j0 k l0 a1 (decide (a1 > (l0.length:Int))))
theorem yac.mono_l:∀ k,(∀ y0 y1 y2,LeO (yac.j0 k y0 y1 y2) (yac.j0 (k+1) y0 y1 y2))∧(∀ y0 y1 y2 y3 y4,LeO (yac.l0 k y0 y1 y2 y3 y4) (yac.l0 (k+1) y0 y1 y2 y3 y4))∧(∀ y0 y1 y2 y3 y4 y5 y6,LeO (yac.j2 k y0 y1 y2 y3 y4 y5 y6) (yac.j2 (k+1) y0 y1 y2 y3 y4 y5 y6))
 | 0=>⟨fun _ _ _ r h=>by simp [yac.j0] at h,fun _ _ _ _ _ r h=>by simp [yac.l0] at h,fun _ _ _ _ _ _ _ r h=>by simp [yac.j2] at h⟩
 | k+1=>by
  obtain⟨ih0,ih1,ih2⟩:=yac.mono_l k
  refine⟨?_,?_,?_⟩
  ·intro y0 y1 y2
   unfold yac.j0
   repeat' first
   | (with_reducible exact ih0 _ _ _)
   | (with_reducible exact ih1 _ _ _ _ _)
   | (with_reducible exact ih2 _ _ _ _ _ _ _)
   | (with_reducible exact LeO.refl _)
   | (with_reducible exact LeO.none _)
   | (with_reducible refine LeO.ite ?_ ?_)
   | (with_reducible refine LeO.bind ?_ (fun _=>?_))
  ·intro y0 y1 y2 y3 y4
   unfold yac.l0
   repeat' first
   | (with_reducible exact ih0 _ _ _)
   | (with_reducible exact ih1 _ _ _ _ _)
   | (with_reducible exact ih2 _ _ _ _ _ _ _)
   | (with_reducible exact LeO.refl _)
   | (with_reducible exact LeO.none _)
   | (with_reducible refine LeO.ite ?_ ?_)
   | (with_reducible refine LeO.bind ?_ (fun _=>?_))
  ·intro y0 y1 y2 y3 y4 y5 y6
   unfold yac.j2
   repeat' first
   | (with_reducible exact ih0 _ _ _)
   | (with_reducible exact ih1 _ _ _ _ _)
   | (with_reducible exact ih2 _ _ _ _ _ _ _)
   | (with_reducible exact LeO.refl _)
   | (with_reducible exact LeO.none _)
   | (with_reducible refine LeO.ite ?_ ?_)
   | (with_reducible refine LeO.bind ?_ (fun _=>?_))
theorem yac.mono:∀ a0 a1 k,LeO (yac.f k a0 a1) (yac.f (k+1) a0 a1):=by
 intro a0 a1 k
 obtain⟨ih0,ih1,ih2⟩:=yac.mono_l k
 unfold yac.f
 repeat' first
   | (with_reducible exact ih0 _ _ _)
   | (with_reducible exact ih1 _ _ _ _ _)
   | (with_reducible exact ih2 _ _ _ _ _ _ _)
   | (with_reducible exact LeO.refl _)
   | (with_reducible exact LeO.none _)
   | (with_reducible refine LeO.ite ?_ ?_)
   | (with_reducible refine LeO.bind ?_ (fun _=>?_))
theorem yac.calls (k:Nat) (A0:Option Addr) (c0:Nat) (l0:List Int) (a1:Int) (r1:Int) (r2:Int) (r3:Int) (w:World) (hr0:Kd.C (Kd.int .u8) w A0 l0.length l0) (hc0:l0.length≤c0) (h:yac.f k l0 a1=some (r1,r2,r3)) :
  Calls Tryz.prog 44 #[.slice A0 l0.length c0,.int .i64 a1] w fun e w'=>e=.returned (.tuple #[.int .u64 r1,.int .i64 r2,.int .i64 r3])∧yap w w':=by
 have HR0:=yaa.mk hr0
 have HC0:=yaa.mk hc0
 clear hr0 hc0
 have H:(if a1<0 then (yac.j0 k l0 a1 true) else (yac.j0 k l0 a1 (decide (a1 > (l0.length:Int)))))=some (r1,r2,r3):=h
 clear h
 have HC3:=yaa.mk H
 clear H
 go_enter Tryz.func44,Tryz.ntmps44
 go_upto_region 1 with (fail)
 go_cut [18] (fun v18 wc=>∃ (kq:Nat) (x18_2:Bool),v18=.bool x18_2∧yaa (yac.j0 kq l0 a1 x18_2=some (r1,r2,r3))∧yaa (kq≤k)∧yap w wc)
 case first =>
  have H:=HC3.out
  clear HC3
  by_cases c4:a1<0
  ·rw[if_pos c4] at H
   have c4b0:=decide_eq_true c4
   clear c4
   (first|rw[c4b0]|(simp only[ybz,ycs];rw[c4b0])|skip)
   have H':=yaa.mk H
   clear H
   go_wp2
   go_meet
   case rel=>exact⟨_,(true),zF,H',⟨by first|omega|exact Nat.le_refl _⟩,zD⟩
  ·rw[if_neg c4] at H
   have c4b0:=decide_eq_false c4
   clear c4
   (first|rw[c4b0]|(simp only[ybz,ycs];rw[c4b0])|skip)
   have H':=yaa.mk H
   clear H
   go_wp2
   go_meet
   case rel=>exact⟨_,(decide (a1 > (l0.length:Int))),zF,H',⟨by first|omega|exact Nat.le_refl _⟩,zD⟩
 case rest =>
  clear HC3
  try clear p2
  try clear c4
  try clear c4b0
  obtain⟨kq,x18_2,rfl,HA,HJ2,⟨mc2,rfl⟩⟩:=hcut
  cases kq with
  | zero=>exact absurd HA.out (by simp [yac.j0])
  | succ kj2 =>
   have H:=HA.out
   clear HA
   simp only[yac.j0] at H
   by_cases c5:x18_2=true
   ·subst c5
    have H1:(some (0,0,1))=some (r1,r2,r3):=by rw[if_pos rfl] at H;exact H
    clear H
    have H:=H1
    clear H1
    simp only[Option.some.injEq,Prod.mk.injEq] at H
    obtain⟨rfl,rfl,rfl⟩:=H
    go_wp2
    go_ret3
    exact⟨zF,zD⟩
   ·replace c5:=Bool.eq_false_iff.mpr c5
    subst c5
    have H1:(yac.l0 kj2 l0 a1 0 1 a1)=some (r1,r2,r3):=by rw[if_neg (show ¬ (false=true) by decide)] at H;exact H
    clear H
    have H:=H1
    clear H1
    have H':=yaa.mk H
    clear H
    go_wp2
    go_loopg [7,8,9] kj2 (fun kq v7 v8 v9 w'=>∃ (x7_2:Int) (x8_2:Int) (x9_2:Int),v7=.int .u64 x7_2∧v8=.int .u64 x8_2∧v9=.int .i64 x9_2∧yaa (yac.l0 kq l0 a1 x7_2 x8_2 x9_2=some (r1,r2,r3))∧yaa (kq≤kj2)∧yap w w')
    case atStart=>exact⟨(0),(1),(a1),zF,zF,zF,H',⟨Nat.le_refl _⟩,zD⟩
    case round =>
     clear H'
     try clear c2
     try clear p2
     try clear c4
     try clear c4b0
     try clear c5
     try clear p2
     obtain⟨x7_2,x8_2,x9_2,rfl,rfl,rfl,HA,HK2,⟨m2,rfl⟩⟩:=hrel
     cases gk with
     | zero=>exact absurd HA.out (by simp [yac.l0])
     | succ k2 =>
      have H:=HA.out
      clear HA
      simp only[yac.l0] at H
      by_cases c6:x9_2<(l0.length:Int)
      ·rw[if_pos c6] at H
       have c6b0:=decide_eq_true c6
       clear c6
       by_cases c7:0≤x9_2
       ·rw[if_pos c7] at H
        have c7b0:=decide_eq_true c7
        clear c7
        have HC8:=yaa.mk H
        clear H
        have p625:0≤(x9_2:Int):=of_decide_eq_true zA
        have q625:x9_2<(l0.length:Int):=of_decide_eq_true zA
        obtain⟨ad625,e625,hx625_0⟩:=Kd.at_int HR0.out x9_2 p625 q625
        cases e625
        replace p625:=eq_true p625
        replace q625:=eq_true q625
        go_upto_region 8 with (fail)
        go_cut [38] (fun v38 wc=>∃ (kq:Nat) (x38_7:Bool),v38=.bool x38_7∧yaa (yac.j2 kq l0 a1 x7_2 x8_2 x9_2 (IntKind.u64.wrap (rd l0 x9_2)) x38_7=some (r1,r2,r3))∧yaa (kq≤k2)∧yap w wc)
        case first =>
         have H:=HC8.out
         clear HC8
         by_cases c9:(wrap64 (x9_2-a1))=9
         ·rw[if_pos c9] at H
          have c9b0:((wrap64 (x9_2-a1)) == 9)=true:=beq_iff_eq.mpr c9
          have c9b1:((wrap64 (x9_2-a1)) != 9)=false:=bne_eq_false_iff_eq.mpr c9
          clear c9
          (first|rw[c9b0]|(simp only[ybz,ycs];rw[c9b0])|skip)
          have H':=yaa.mk H
          clear H
          go_wp2
          go_meet
          case rel=>exact⟨_,(decide ((IntKind.u64.wrap (rd l0 x9_2)) > 1)),zF,H',⟨by have:=HJ2.out;have:=HK2.out;first|omega|exact Nat.le_refl _⟩,zD⟩
         ·rw[if_neg c9] at H
          have c9b0:((wrap64 (x9_2-a1)) == 9)=false:=beq_eq_false_iff_ne.mpr c9
          have c9b1:((wrap64 (x9_2-a1)) != 9)=true:=bne_iff_ne.mpr c9
          (first|rw[c9b0]|(simp only[ybz,ycs];rw[c9b0])|skip)
          have H':=yaa.mk H
          clear H
          go_wp2
          go_meet
          case rel=>exact⟨_,(false),zF,H',⟨by have:=HJ2.out;have:=HK2.out;first|omega|exact Nat.le_refl _⟩,zD⟩
        case rest =>
         clear HC8
         try clear c2
         try clear p2
         try clear c4
         try clear c4b0
         try clear c5
         try clear c6
         try clear c6b0
         try clear p6
         try clear q6
         try clear hx6
         try clear c7
         try clear c7b0
         try clear c9
         try clear c9b0
         try clear c9b1
         try clear hx625_0
         try clear p2
         try clear p625
         try clear q625
         obtain⟨kq,x38_7,rfl,HA,HJ7,⟨mc7,rfl⟩⟩:=hcut
         cases kq with
         | zero=>exact absurd HA.out (by simp [yac.j2])
         | succ kj7 =>
          have H:=HA.out
          clear HA
          simp only[yac.j2] at H
          by_cases c10:x38_7=true
          ·subst c10
           have H1:(some (0,0,20))=some (r1,r2,r3):=by rw[if_pos rfl] at H;exact H
           clear H
           have H:=H1
           clear H1
           simp only[Option.some.injEq,Prod.mk.injEq] at H
           obtain⟨rfl,rfl,rfl⟩:=H
           go_wp2
           go_ret3
           exact⟨zF,zD⟩
          ·replace c10:=Bool.eq_false_iff.mpr c10
           subst c10
           have H1:(if (IntKind.u64.wrap (rd l0 x9_2))<128 then (if (IntKind.u64.wrap (rd l0 x9_2))=0 then (if x9_2 > a1 then (some (0,0,5)) else (some (IntKind.u64.wrap (x7_2+(IntKind.u64.wrap ((Int.tmod (IntKind.u64.wrap (rd l0 x9_2)) 128)*x8_2))),wrap64 (x9_2+1),0))) else (some (IntKind.u64.wrap (x7_2+(IntKind.u64.wrap ((Int.tmod (IntKind.u64.wrap (rd l0 x9_2)) 128)*x8_2))),wrap64 (x9_2+1),0))) else (yac.l0 kj7 l0 a1 (IntKind.u64.wrap (x7_2+(IntKind.u64.wrap ((Int.tmod (IntKind.u64.wrap (rd l0 x9_2)) 128)*x8_2)))) (IntKind.u64.wrap (x8_2*128)) (wrap64 (x9_2+1))))=some (r1,r2,r3):=by rw[if_neg (show ¬ (false=true) by decide)] at H;exact H
           clear H
           have H:=H1
           clear H1
           by_cases c11:(IntKind.u64.wrap (rd l0 x9_2))<128
           ·rw[if_pos c11] at H
            have c11b0:=decide_eq_true c11
            clear c11
            by_cases c12:(IntKind.u64.wrap (rd l0 x9_2))=0
            ·rw[if_pos c12] at H
             have c12b0:((IntKind.u64.wrap (rd l0 x9_2)) == 0)=true:=beq_iff_eq.mpr c12
             have c12b1:((IntKind.u64.wrap (rd l0 x9_2)) != 0)=false:=bne_eq_false_iff_eq.mpr c12
             clear c12
             by_cases c13:x9_2 > a1
             ·rw[if_pos c13] at H
              have c13b0:decide (a1<x9_2)=true:=decide_eq_true c13
              clear c13
              simp only[Option.some.injEq,Prod.mk.injEq] at H
              obtain⟨rfl,rfl,rfl⟩:=H
              go_wp2
              go_ret3
              exact⟨zF,zD⟩
             ·rw[if_neg c13] at H
              have c13b0:decide (a1<x9_2)=false:=decide_eq_false c13
              clear c13
              simp only[Option.some.injEq,Prod.mk.injEq] at H
              obtain⟨rfl,rfl,rfl⟩:=H
              go_wp2
              go_ret3
              exact⟨zF,zD⟩
            ·rw[if_neg c12] at H
             have c12b0:((IntKind.u64.wrap (rd l0 x9_2)) == 0)=false:=beq_eq_false_iff_ne.mpr c12
             have c12b1:((IntKind.u64.wrap (rd l0 x9_2)) != 0)=true:=bne_iff_ne.mpr c12
             simp only[Option.some.injEq,Prod.mk.injEq] at H
             obtain⟨rfl,rfl,rfl⟩:=H
             go_wp2
             go_ret3
             exact⟨zF,zD⟩
           ·rw[if_neg c11] at H
            have c11b0:=decide_eq_false c11
            clear c11
            have H':=yaa.mk H
            clear H
            go_wp2
            go_roundg kj7
            case measure=>have:=HJ2.out;have:=HK2.out;have:=HJ7.out;omega
            case rel=>exact⟨(IntKind.u64.wrap (x7_2+(IntKind.u64.wrap ((Int.tmod (IntKind.u64.wrap (rd l0 x9_2)) 128)*x8_2)))),(IntKind.u64.wrap (x8_2*128)),(wrap64 (x9_2+1)),zF,zF,zF,H',⟨by have:=HJ2.out;have:=HK2.out;have:=HJ7.out;omega⟩,zD⟩
       ·rw[if_neg c7] at H
        exact absurd H (by simp)
      ·rw[if_neg c6] at H
       have c6b0:=decide_eq_false c6
       clear c6
       simp only[Option.some.injEq,Prod.mk.injEq] at H
       obtain⟨rfl,rfl,rfl⟩:=H
       go_wp2
       go_ret3
       exact⟨zF,zD⟩
def ydw.f (k:Nat) (l0:List Int) (a1:Int):Option (Int):=if 0≤(wrap64 (Int.tdiv a1 8)) then (if (wrap64 (Int.tdiv a1 8))<(l0.length:Int) then ((ybk.f k (Int.tmod a1 8)).bind fun t627=>(if t627=0 then (none) else (some (Int.tmod (IntKind.u64.wrap (Int.tdiv (IntKind.u64.wrap (rd l0 (wrap64 (Int.tdiv a1 8)))) t627)) 2)))) else (none)) else (none)
theorem ydw.calls (k:Nat) (A0:Option Addr) (c0:Nat) (l0:List Int) (a1:Int) (r:Int) (w:World) (hr0:Kd.C (Kd.int .u8) w A0 l0.length l0) (hc0:l0.length≤c0) (h:ydw.f k l0 a1=some r) :
  Calls Tryz.prog 113 #[.slice A0 l0.length c0,.int .i64 a1] w fun e w'=>e=.returned (.int .u64 r)∧yap w w':=by
 have HR0:=yaa.mk hr0
 have HC0:=yaa.mk hc0
 clear hr0 hc0
 have H:(if 0≤(wrap64 (Int.tdiv a1 8)) then (if (wrap64 (Int.tdiv a1 8))<(l0.length:Int) then ((ybk.f k (Int.tmod a1 8)).bind fun t627=>(if t627=0 then (none) else (some (Int.tmod (IntKind.u64.wrap (Int.tdiv (IntKind.u64.wrap (rd l0 (wrap64 (Int.tdiv a1 8)))) t627)) 2)))) else (none)) else (none))=some r:=h
 clear h
 obtain⟨ji3,hji3⟩:∃ j_:Int,(wrap64 (Int.tdiv a1 8))=j_:=⟨_,rfl⟩
 replace H:(if 0≤(ji3) then (if (ji3)<(l0.length:Int) then ((ybk.f k (Int.tmod a1 8)).bind fun t627=>(if t627=0 then (none) else (some (Int.tmod (IntKind.u64.wrap (Int.tdiv (IntKind.u64.wrap (rd l0 (ji3))) t627)) 2)))) else (none)) else (none))=some r:=by first|(rw[hji3] at H;exact H)|(simp only[hji3] at H ⊢;exact H)
 have hji3w:(IntKind.i64.wrap (Int.tdiv a1 8))=ji3:=(ybz _).trans hji3
 by_cases c4:0≤(ji3)
 ·rw[if_pos c4] at H
  have c4b0:=decide_eq_true c4
  clear c4
  by_cases c5:(ji3)<(l0.length:Int)
  ·rw[if_pos c5] at H
   have c5b0:=decide_eq_true c5
   clear c5
   replace H:=Option.bind_eq_some_iff.mp H
   obtain⟨t627,A60,H⟩:=H
   try dsimp only at H
   have A6:=yaa.mk A60
   clear A60
   by_cases c7:t627=0
   ·rw[if_pos c7] at H
    exact absurd H (by simp)
   ·rw[if_neg c7] at H
    have c7b0:(t627 == 0)=false:=beq_eq_false_iff_ne.mpr c7
    have c7b1:(t627 != 0)=true:=bne_iff_ne.mpr c7
    obtain rfl:=Option.some.inj H
    have p626:0≤((ji3):Int):=of_decide_eq_true zA
    have q626:(ji3)<(l0.length:Int):=of_decide_eq_true zA
    obtain⟨ad626,e626,hx626_0⟩:=Kd.at_int HR0.out (ji3) p626 q626
    cases e626
    replace p626:=eq_true p626
    replace q626:=eq_true q626
    go_enter Tryz.func113,Tryz.ntmps113
    go_wp2_with (first|(go_at_call 94;(with_reducible refine(ybk.calls k (Int.tmod a1 8) t627 _ A6.out).mono ?_);rintro e w' ⟨rfl,⟨nd,rfl⟩⟩;(try exact zQ)))
    repeat (go_quiet (first|(go_at_call 94;(with_reducible refine(ybk.calls k (Int.tmod a1 8) t627 _ A6.out).mono ?_);rintro e w' ⟨rfl,⟨nd,rfl⟩⟩;(try exact zQ)));try go_wp2_with (first|(go_at_call 94;(with_reducible refine(ybk.calls k (Int.tmod a1 8) t627 _ A6.out).mono ?_);rintro e w' ⟨rfl,⟨nd,rfl⟩⟩;(try exact zQ))))
    go_ret
    exact⟨by first|rfl|(simp;done)|(simp only[← hji3] <;> (first|rfl|simp))|(simp [*];done),zD⟩
  ·rw[if_neg c5] at H
   exact absurd H (by simp)
 ·rw[if_neg c4] at H
  exact absurd H (by simp)
def ybu.l0:Nat→List Int→Int→Int→Int→Option (Int)
 | 0,_,_,_,_=>none
 | k+1,x0,x1,x7,x8=>if x8≥0 then ((ydw.f k x0 (wrap64 (x1+x8))).bind fun t628=>(ybu.l0 k x0 x1 (IntKind.u64.wrap ((IntKind.u64.wrap (x7*2))+t628)) (wrap64 (x8-1)))) else (some x7)
def ybu.f (k:Nat) (l0:List Int) (a1:Int) (a2:Int):Option (Int):=ybu.l0 k l0 a1 0 (wrap64 (a2-1))
theorem ybu.calls (k:Nat) (A0:Option Addr) (c0:Nat) (l0:List Int) (a1:Int) (a2:Int) (r:Int) (w:World) (hr0:Kd.C (Kd.int .u8) w A0 l0.length l0) (hc0:l0.length≤c0) (h:ybu.f k l0 a1 a2=some r) :
  Calls Tryz.prog 114 #[.slice A0 l0.length c0,.int .i64 a1,.int .i64 a2] w fun e w'=>e=.returned (.int .u64 r)∧yap w w':=by
 have HR0:=yaa.mk hr0
 have HC0:=yaa.mk hc0
 clear hr0 hc0
 have H:(ybu.l0 k l0 a1 0 (wrap64 (a2-1)))=some r:=h
 clear h
 have H':=yaa.mk H
 clear H
 go_enter Tryz.func114,Tryz.ntmps114
 go_wp2
 go_loopg [7,8] k (fun kq v7 v8 w'=>∃ (x7_1:Int) (x8_1:Int),v7=.int .u64 x7_1∧v8=.int .i64 x8_1∧yaa (ybu.l0 kq l0 a1 x7_1 x8_1=some r)∧yaa (kq≤k)∧yap w w')
 case atStart=>exact⟨(0),(wrap64 (a2-1)),zF,zF,H',⟨Nat.le_refl _⟩,zD⟩
 case round =>
  clear H'
  try clear c1
  try clear p2
  obtain⟨x7_1,x8_1,rfl,rfl,HA,HK1,⟨m1,rfl⟩⟩:=hrel
  cases gk with
  | zero=>exact absurd HA.out (by simp [ybu.l0])
  | succ k1 =>
   have H:=HA.out
   clear HA
   simp only[ybu.l0] at H
   by_cases c4:x8_1≥0
   ·rw[if_pos c4] at H
    have c4b0:decide (0≤x8_1)=true:=decide_eq_true c4
    clear c4
    replace H:=Option.bind_eq_some_iff.mp H
    obtain⟨t628,A50,H⟩:=H
    try dsimp only at H
    have A5:=yaa.mk A50
    clear A50
    have H':=yaa.mk H
    clear H
    go_wp2_with (first|((with_reducible refine yad (f:=113) rfl ?_);refine yak (some 21) rfl rfl Tryz.func113 (by kernel_rfl) rfl #[.slice A0 l0.length c0,.int .i64 (wrap64 (a1+x8_1))] rfl zE ?_;(with_reducible refine(ydw.calls k1 _ _ l0 (wrap64 (a1+x8_1)) t628 _ ?side1 ?side2 A5.out).mono ?_);(case side1=>exact zC HR0.out);(case side2=>exact HC0.out);rintro e w' ⟨rfl,⟨nd,rfl⟩⟩;refine⟨_,rfl,?_⟩))
    go_roundg k1
    case measure=>have:=HK1.out;omega
    case rel=>exact⟨(IntKind.u64.wrap ((IntKind.u64.wrap (x7_1*2))+t628)),(wrap64 (x8_1-1)),zF,zF,H',⟨by have:=HK1.out;omega⟩,zD⟩
   ·rw[if_neg c4] at H
    have c4b0:decide (0≤x8_1)=false:=decide_eq_false c4
    clear c4
    obtain rfl:=Option.some.inj H
    go_wp2
    go_ret
    exact⟨zF,zD⟩
end Go.Proofs.YteeikgjjgfdjgaaGreat.PK
end
