/-
  Parts of the proof: E19, E26.
-/
import Derived.Test.YteeikgjjgfdjgaaGreatV13
import Derived.Test.YteeikgjjgfdjgaaGreatV15
set_option maxHeartbeats 8000000
set_option maxRecDepth 100000
section
namespace Go.Proofs.YteeikgjjgfdjgaaGreat.PK
open Go.RowKit YteeikgjjgfdjgaaGreatW.PrintWords YteeikgjjgfdjgaaGreatW.PrintLast YteeikgjjgfdjgaaGreatW.PrintMore
attribute [local go_sem] yce ycf ycu ycv yb8 yb7 ycm yco
set_option linter.unusedVariables false
set_option linter.unusedSimpArgs false
def yb9.l0:Nat→List Int→List Int→Int→Option (Bool)
 | 0,_,_,_=>none
 | k+1,x0,x1,x5=>if x5<(x1.length:Int) then (if 0≤x5 then (if x5<(x0.length:Int) then (if (rd x0 x5)=(Go.bits .xor .u8 (rd x1 x5) 90) then (yb9.l0 k x0 x1 (wrap64 (x5+1))) else (some false)) else (none)) else (none)) else (some true)
def yb9.f (k:Nat) (l0:List Int) (l1:List Int):Option (Bool):=if (l0.length:Int)=(l1.length:Int) then (yb9.l0 k l0 l1 0) else (some false)
theorem yb9.calls (k:Nat) (A0:Option Addr) (c0:Nat) (l0:List Int) (A1:Option Addr) (c1:Nat) (l1:List Int) (r:Bool) (w:World) (hr0:Kd.C (Kd.int .u8) w A0 l0.length l0) (hc0:l0.length≤c0) (hr1:Kd.C (Kd.int .u8) w A1 l1.length l1) (hc1:l1.length≤c1) (h:yb9.f k l0 l1=some r) :
  Calls Tryz.prog 36 #[.slice A0 l0.length c0,.slice A1 l1.length c1] w fun e w'=>e=.returned (.bool r)∧yap w w':=by
 have HR0:=yaa.mk hr0
 have HC0:=yaa.mk hc0
 clear hr0 hc0
 have HR1:=yaa.mk hr1
 have HC1:=yaa.mk hc1
 clear hr1 hc1
 have H:(if (l0.length:Int)=(l1.length:Int) then (yb9.l0 k l0 l1 0) else (some false))=some r:=h
 clear h
 by_cases c3:(l0.length:Int)=(l1.length:Int)
 ·rw[if_pos c3] at H
  have c3b0:((l0.length:Int) == (l1.length:Int))=true:=beq_iff_eq.mpr c3
  have c3b1:((l0.length:Int) != (l1.length:Int))=false:=bne_eq_false_iff_eq.mpr c3
  have c3b2:(l0.length == l1.length)=true:=by first|simpa using c3|(simp at c3 ⊢;omega)
  clear c3
  have H':=yaa.mk H
  clear H
  go_enter Tryz.func36,Tryz.ntmps36
  go_wp2
  repeat (go_quiet (fail);try go_wp2)
  go_loopg [5] k (fun kq v5 w'=>∃ (x5_1:Int),v5=.int .i64 x5_1∧yaa (yb9.l0 kq l0 l1 x5_1=some r)∧yaa (kq≤k)∧yap w w')
  case atStart=>exact⟨(0),zF,H',⟨Nat.le_refl _⟩,zD⟩
  case round =>
   clear H'
   try clear c1
   try clear p2
   try clear c3
   try clear c3b0
   try clear c3b1
   try clear c3b2
   obtain⟨x5_1,rfl,HA,HK1,⟨m1,rfl⟩⟩:=hrel
   cases gk with
   | zero=>exact absurd HA.out (by simp [yb9.l0])
   | succ k1 =>
    have H:=HA.out
    clear HA
    simp only[yb9.l0] at H
    by_cases c4:x5_1<(l1.length:Int)
    ·rw[if_pos c4] at H
     have c4b0:=decide_eq_true c4
     clear c4
     by_cases c5:0≤x5_1
     ·rw[if_pos c5] at H
      have c5b0:=decide_eq_true c5
      clear c5
      by_cases c6:x5_1<(l0.length:Int)
      ·rw[if_pos c6] at H
       have c6b0:=decide_eq_true c6
       clear c6
       by_cases c7:(rd l0 x5_1)=(Go.bits .xor .u8 (rd l1 x5_1) 90)
       ·rw[if_pos c7] at H
        have c7b0:((rd l0 x5_1) == (Go.bits .xor .u8 (rd l1 x5_1) 90))=true:=beq_iff_eq.mpr c7
        have c7b1:((rd l0 x5_1) != (Go.bits .xor .u8 (rd l1 x5_1) 90))=false:=bne_eq_false_iff_eq.mpr c7
        clear c7
        have H':=yaa.mk H
        clear H
        have p929:0≤(x5_1:Int):=of_decide_eq_true zA
        have q929:x5_1<(l0.length:Int):=of_decide_eq_true zA
        obtain⟨ad929,e929,hx929_0⟩:=Kd.at_int HR0.out x5_1 p929 q929
        cases e929
        replace p929:=eq_true p929
        replace q929:=eq_true q929
        have p930:0≤(x5_1:Int):=of_decide_eq_true zA
        have q930:x5_1<(l1.length:Int):=of_decide_eq_true zA
        obtain⟨ad930,e930,hx930_0⟩:=Kd.at_int HR1.out x5_1 p930 q930
        cases e930
        replace p930:=eq_true p930
        replace q930:=eq_true q930
        go_wp2
        repeat (go_quiet (fail);try go_wp2)
        go_roundg k1
        case measure=>have:=HK1.out;omega
        case rel=>exact⟨(wrap64 (x5_1+1)),zF,H',⟨by have:=HK1.out;omega⟩,zD⟩
       ·rw[if_neg c7] at H
        have c7b0:((rd l0 x5_1) == (Go.bits .xor .u8 (rd l1 x5_1) 90))=false:=beq_eq_false_iff_ne.mpr c7
        have c7b1:((rd l0 x5_1) != (Go.bits .xor .u8 (rd l1 x5_1) 90))=true:=bne_iff_ne.mpr c7
        obtain rfl:=Option.some.inj H
        have p929:0≤(x5_1:Int):=of_decide_eq_true zA
        have q929:x5_1<(l0.length:Int):=of_decide_eq_true zA
        obtain⟨ad929,e929,hx929_0⟩:=Kd.at_int HR0.out x5_1 p929 q929
        cases e929
        replace p929:=eq_true p929
        replace q929:=eq_true q929
        have p930:0≤(x5_1:Int):=of_decide_eq_true zA
        have q930:x5_1<(l1.length:Int):=of_decide_eq_true zA
        obtain⟨ad930,e930,hx930_0⟩:=Kd.at_int HR1.out x5_1 p930 q930
        cases e930
        replace p930:=eq_true p930
        replace q930:=eq_true q930
        go_wp2
        repeat (go_quiet (fail);try go_wp2)
        go_ret
        exact⟨zF,zD⟩
      ·rw[if_neg c6] at H
       exact absurd H (by simp)
     ·rw[if_neg c5] at H
      exact absurd H (by simp)
    ·rw[if_neg c4] at H
     have c4b0:=decide_eq_false c4
     clear c4
     obtain rfl:=Option.some.inj H
     go_wp2
     repeat (go_quiet (fail);try go_wp2)
     go_ret
     exact⟨zF,zD⟩
 ·rw[if_neg c3] at H
  have c3b0:((l0.length:Int) == (l1.length:Int))=false:=beq_eq_false_iff_ne.mpr c3
  have c3b1:((l0.length:Int) != (l1.length:Int))=true:=bne_iff_ne.mpr c3
  have c3b2:(l0.length == l1.length)=false:=by first|simpa using c3|(simp at c3 ⊢;omega)
  obtain rfl:=Option.some.inj H
  go_enter Tryz.func36,Tryz.ntmps36
  go_wp2
  repeat (go_quiet (fail);try go_wp2)
  go_ret
  exact⟨zF,zD⟩
def yci.l0:Nat→List Int→Int→Option (List Int)
 | 0,_,_=>none
 | k+1,x3,x4=>if x4<64 then (if x3.length<140737488355328 then (yci.l0 k (x3++[(wrap64 (192+(Int.tmod x4 7)))%256]) (wrap64 (x4+1))) else (none)) else (some x3)
def yci.f (k:Nat) (l0:List Int):Option (List Int):=(yay.f k l0).bind fun t598=>(yci.l0 k t598 0)
theorem yci.calls (k:Nat) (A0:Option Addr) (c0:Nat) (l0:List Int) (r:List Int) (w:World) (hr0:Kd.C (Kd.int .u8) w A0 l0.length l0) (hc0:l0.length≤c0) (h:yci.f k l0=some r) :
  Calls Tryz.prog 18 #[.slice A0 l0.length c0] w fun e w'=>∃ v0_:Value,e=.returned (v0_)∧Kd.R (Kd.int .u8) 5 w' w.heap.size (fun _=>True) v0_ r∧Below w.heap.size w w':=by
 have HR0:=yaa.mk hr0
 have HC0:=yaa.mk hc0
 clear hr0 hc0
 have HB:=yaa.mk (Below.refl w.heap.size w)
 have H:((yay.f k l0).bind fun t598=>(yci.l0 k t598 0))=some r:=h
 clear h
 replace H:=Option.bind_eq_some_iff.mp H
 obtain⟨t598,A20,H⟩:=H
 try dsimp only at H
 have A2:=yaa.mk A20
 clear A20
 have H':=yaa.mk H
 clear H
 go_enter Tryz.func18,Tryz.ntmps18
 go_wp2_with (first|((with_reducible refine yad (f:=24) rfl ?_);refine yak (some 6) rfl rfl Tryz.func24 (by kernel_rfl) rfl #[.slice A0 l0.length c0] rfl zE ?_;(with_reducible refine(yay.calls k _ _ l0 t598 _ ?side1 ?side2 A2.out).mono ?_);(case side1=>exact zC HR0.out);(case side2=>exact HC0.out);rintro e w3 ⟨v599,rfl,ho0,hb⟩;refine⟨_,rfl,?_⟩;have n0_:=yaa.mk (Kd.R_lower ho0 (yaf zB));have n1_:=yaa.mk (yai zB hb);clear HB;have HO600:=n0_;have HB:=n1_;clear n0_ n1_;(try clear hb);(try clear hb2);(try clear hk);(try clear hi);(try clear ho0)))
 go_loopg [3,4] k (fun kq v3 v4 w'=>∃ (x3_1:List Int) (x4_1:Int),v4=.int .i64 x4_1∧yaa (yci.l0 kq x3_1 x4_1=some r)∧yaa (kq≤k)∧yaa (Kd.R (Kd.int .u8) 5 w' w.heap.size (fun _=>True) v3 x3_1)∧yaa (Below w.heap.size w w'))
 case atStart=>exact⟨(t598),(0),zF,H',⟨Nat.le_refl _⟩,⟨zR HO600.out⟩,⟨zB⟩⟩
 case round =>
  clear H'
  try clear c1
  try clear c2
  try clear p2
  obtain⟨x3_1,x4_1,rfl,HA,HK1,HO_3,HB⟩:=hrel
  cases gk with
  | zero=>exact absurd HA.out (by simp [yci.l0])
  | succ k1 =>
   have H:=HA.out
   clear HA
   simp only[yci.l0] at H
   by_cases c4:x4_1<64
   ·rw[if_pos c4] at H
    have c4b0:=decide_eq_true c4
    clear c4
    by_cases c5:x3_1.length<140737488355328
    ·rw[if_pos c5] at H
     have LMc5:=yaa.mk c5
     clear c5
     obtain⟨y601,hy601⟩:∃ y_:List Int,y_=(x3_1++[(wrap64 (192+(Int.tmod x4_1 7)))%256]):=⟨_,rfl⟩
     replace H:(yci.l0 k1 y601 (wrap64 (x4_1+1)))=some r:=by first|(rw[hy601];with_reducible exact H)|(have H2_:=(Option.bind_some _ _).symm.trans H;rw[hy601];with_reducible exact H2_)|(have H2_:=(Option.bind_some _ _).symm.trans H;with_reducible exact H2_)|with_reducible exact H|(rw[hy601];exact H)|exact H
     have Ny601:=yaa.mk hy601
     clear hy601
     have H':=yaa.mk H
     clear H
     go_wp2_with (first|((with_reducible refine ybm (b:=.append) (xs:=#[.tmp 11,.tmp 16]) rfl ?_);at_builtin;refine Kd.R_append (Kd.int .u8) (w0:=w) w.heap.size rfl (.tmp 11) (.tmp 16) 25 5 (.int .u8 0) 1 rfl Tryz.underlying25 ycj rfl (by decide) (by omega) u3 x3_1 ((wrap64 (192+(Int.tmod x4_1 7)))%256) [.int .u8 ((wrap64 (192+(Int.tmod x4_1 7)))%256)] (fun _=>True) (fun _=>False) rfl rfl ?aP (fun _ hk=>hk.elim) ?aF ?aO ?aB ?aS ?aL ?_;(case aP=>exact rfl);(case aB=>exact zB);(case aF=>exact fun _ _=>trivial);(case aO=>exact(zR HO_3.out));(case aS=>exact(yaf zB));(case aL=>have:=LMc5.out;omega);intro v602 w6 ho hb hg hat;rw[← Ny601.out] at ho;have n0_:=yaa.mk (hb);have n1_:=yaa.mk (ho);clear HB;clear HO_3;have HB:=n0_;have HO603:=n1_;clear n0_ n1_;clear ho hb hg hat))
     go_roundg k1
     case measure=>have:=HK1.out;omega
     case rel=>exact⟨(y601),(wrap64 (x4_1+1)),zF,H',⟨by have:=HK1.out;omega⟩,⟨zR HO603.out⟩,⟨zB⟩⟩
    ·rw[if_neg c5] at H
     exact absurd H (by simp)
   ·rw[if_neg c4] at H
    have c4b0:=decide_eq_false c4
    clear c4
    obtain rfl:=Option.some.inj H
    go_wp2
    go_ret
    exact⟨_,zG,zR HO_3.out,zB⟩
end Go.Proofs.YteeikgjjgfdjgaaGreat.PK
end
section
namespace Go.Proofs.YteeikgjjgfdjgaaGreat.PK
open Go.RowKit YteeikgjjgfdjgaaGreatW.PrintWords YteeikgjjgfdjgaaGreatW.PrintLast YteeikgjjgfdjgaaGreatW.PrintMore
attribute [local go_sem] yce ycf ycu ycv yb8 yb7 ycm yco
set_option linter.unusedVariables false
set_option linter.unusedSimpArgs false
mutual
def ya2.j0:Nat→List Int→List Int→Bool→Int→Int→Int→Bool→Option (List Int×Int×Int)
 | 0,_,_,_,_,_,_,_=>none
 | k+1,x0,x2,x3,x11,x14,x15,x49=>if x49=true then (some (([]:List Int),0,5)) else (if x14 > 200 then (ya2.j1 k x0 x2 x3 x11 x14 x15 true) else (ya2.j1 k x0 x2 x3 x11 x14 x15 (decide ((IntKind.u64.wrap (x11+x14)) > 200))))
def ya2.j1:Nat→List Int→List Int→Bool→Int→Int→Int→Bool→Option (List Int×Int×Int)
 | 0,_,_,_,_,_,_,_=>none
 | k+1,x0,x2,x3,x11,x14,x15,x57=>if x57=true then (some (([]:List Int),0,4)) else (if x14 > (IntKind.u64.wrap (wrap64 ((x0.length:Int)-x15))) then (some (([]:List Int),0,2)) else ((yag.f k x2 0 (wrap64 (x11))).bind fun t796=>((yag.f k x0 x15 (wrap64 (x15+(wrap64 (x14))))).bind fun t799=>((yaz.f k t796 t799).bind fun t802=>(if x3=true then (some (t802,wrap64 (x15+(wrap64 (x14))),0)) else ((ybo.f k x2 t802).bind fun t805=>(if t805 > (wrap64 (x11)) then (some (([]:List Int),0,5)) else (some (t802,wrap64 (x15+(wrap64 (x14))),0)))))))))
end
def ya2.f (k:Nat) (l0:List Int) (a1:Int) (l2:List Int) (a3:Bool):Option (List Int×Int×Int):=(yac.f k l0 a1).bind fun bt790=>(if bt790.2.2=0 then ((yac.f k l0 bt790.2.1).bind fun bt793=>(if bt793.2.2=0 then (if bt790.1 > (IntKind.u64.wrap ((l2.length:Int))) then (ya2.j0 k l0 l2 a3 bt790.1 bt793.1 bt793.2.1 true) else (if a3=true then (ya2.j0 k l0 l2 a3 bt790.1 bt793.1 bt793.2.1 (decide (bt790.1 > 0))) else (ya2.j0 k l0 l2 a3 bt790.1 bt793.1 bt793.2.1 false))) else (some (([]:List Int),0,bt793.2.2)))) else (some (([]:List Int),0,bt790.2.2)))
theorem ya2.calls (k:Nat) (A0:Option Addr) (c0:Nat) (l0:List Int) (a1:Int) (A2:Option Addr) (c2:Nat) (l2:List Int) (a3:Bool) (r1:List Int) (r2:Int) (r3:Int) (w:World) (hr0:Kd.C (Kd.int .u8) w A0 l0.length l0) (hc0:l0.length≤c0) (hr2:Kd.C (Kd.int .u8) w A2 l2.length l2) (hc2:l2.length≤c2) (h:ya2.f k l0 a1 l2 a3=some (r1,r2,r3)) :
  Calls Tryz.prog 121 #[.slice A0 l0.length c0,.int .i64 a1,.slice A2 l2.length c2,.bool a3] w fun e w'=>∃ v0_:Value,e=.returned (.tuple #[v0_,.int .i64 r2,.int .i64 r3])∧Kd.R (Kd.int .u8) 5 w' w.heap.size (fun _=>True) v0_ r1∧Below w.heap.size w w':=by
 have HR0:=yaa.mk hr0
 have HC0:=yaa.mk hc0
 clear hr0 hc0
 have HR2:=yaa.mk hr2
 have HC2:=yaa.mk hc2
 clear hr2 hc2
 have HB:=yaa.mk (Below.refl w.heap.size w)
 have H:((yac.f k l0 a1).bind fun bt790=>(if bt790.2.2=0 then ((yac.f k l0 bt790.2.1).bind fun bt793=>(if bt793.2.2=0 then (if bt790.1 > (IntKind.u64.wrap ((l2.length:Int))) then (ya2.j0 k l0 l2 a3 bt790.1 bt793.1 bt793.2.1 true) else (if a3=true then (ya2.j0 k l0 l2 a3 bt790.1 bt793.1 bt793.2.1 (decide (bt790.1 > 0))) else (ya2.j0 k l0 l2 a3 bt790.1 bt793.1 bt793.2.1 false))) else (some (([]:List Int),0,bt793.2.2)))) else (some (([]:List Int),0,bt790.2.2))))=some (r1,r2,r3):=h
 clear h
 replace H:=Option.bind_eq_some_iff.mp H
 obtain⟨⟨t790,t791,t792⟩,A50,H⟩:=H
 try dsimp only at H
 have A5:=yaa.mk A50
 clear A50
 by_cases c6:t792=0
 ·rw[if_pos c6] at H
  have c6b0:(t792 == 0)=true:=beq_iff_eq.mpr c6
  have c6b1:(t792 != 0)=false:=bne_eq_false_iff_eq.mpr c6
  clear c6
  replace H:=Option.bind_eq_some_iff.mp H
  obtain⟨⟨t793,t794,t795⟩,A70,H⟩:=H
  try dsimp only at H
  have A7:=yaa.mk A70
  clear A70
  by_cases c8:t795=0
  ·rw[if_pos c8] at H
   have c8b0:(t795 == 0)=true:=beq_iff_eq.mpr c8
   have c8b1:(t795 != 0)=false:=bne_eq_false_iff_eq.mpr c8
   clear c8
   have HC9:=yaa.mk H
   clear H
   go_enter Tryz.func121,Tryz.ntmps121
   go_upto_region 7 with (first|((with_reducible refine yad (f:=44) rfl ?_);refine yak (some 21) rfl rfl Tryz.func44 (by kernel_rfl) rfl #[.slice A0 l0.length c0,.int .i64 a1] rfl zE ?_;(with_reducible refine(yac.calls k _ _ l0 a1 t790 t791 t792 _ ?side1 ?side2 A5.out).mono ?_);(case side1=>exact zC HR0.out);(case side2=>exact HC0.out);rintro e w' ⟨rfl,⟨nd,rfl⟩⟩;refine⟨_,rfl,?_⟩)|((with_reducible refine yad (f:=44) rfl ?_);refine yak (some 31) rfl rfl Tryz.func44 (by kernel_rfl) rfl #[.slice A0 l0.length c0,.int .i64 t791] rfl zE ?_;(with_reducible refine(yac.calls k _ _ l0 t791 t793 t794 t795 _ ?side1 ?side2 A7.out).mono ?_);(case side1=>exact zC HR0.out);(case side2=>exact HC0.out);rintro e w' ⟨rfl,⟨nd,rfl⟩⟩;refine⟨_,rfl,?_⟩))
   (try simp only[Act.put,List.setIfInBounds_toArray,List.set_cons_zero,List.set_cons_succ])
   go_cut [49] (fun v49 wc=>∃ (kq:Nat) (x49_8:Bool),v49=.bool x49_8∧yaa (ya2.j0 kq l0 l2 a3 t790 t793 t794 x49_8=some (r1,r2,r3))∧yaa (kq≤k)∧yaa (Below w.heap.size w wc))
   case first =>
    have H:=HC9.out
    clear HC9
    by_cases c10:t790 > (IntKind.u64.wrap ((l2.length:Int)))
    ·rw[if_pos c10] at H
     have c10b0:decide ((IntKind.u64.wrap ((l2.length:Int)))<t790)=true:=decide_eq_true c10
     clear c10
     (first|rw[c10b0]|(simp only[ybz,ycs];rw[c10b0])|skip)
     have H':=yaa.mk H
     clear H
     go_wp2
     go_meet
     case rel=>exact⟨_,(true),zF,H',⟨by first|omega|exact Nat.le_refl _⟩,⟨zB⟩⟩
    ·rw[if_neg c10] at H
     have c10b0:decide ((IntKind.u64.wrap ((l2.length:Int)))<t790)=false:=decide_eq_false c10
     clear c10
     (first|rw[c10b0]|(simp only[ybz,ycs];rw[c10b0])|skip)
     by_cases c11:a3=true
     ·subst c11
      have H1:(ya2.j0 k l0 l2 true t790 t793 t794 (decide (t790 > 0)))=some (r1,r2,r3):=by rw[if_pos rfl] at H;exact H
      clear H
      have H:=H1
      clear H1
      have H':=yaa.mk H
      clear H
      go_wp2
      go_meet
      case rel=>exact⟨_,(decide (t790 > 0)),zF,H',⟨by first|omega|exact Nat.le_refl _⟩,⟨zB⟩⟩
     ·replace c11:=Bool.eq_false_iff.mpr c11
      subst c11
      have H1:(ya2.j0 k l0 l2 false t790 t793 t794 false)=some (r1,r2,r3):=by rw[if_neg (show ¬ (false=true) by decide)] at H;exact H
      clear H
      have H:=H1
      clear H1
      have H':=yaa.mk H
      clear H
      go_wp2
      go_meet
      case rel=>exact⟨_,(false),zF,H',⟨by first|omega|exact Nat.le_refl _⟩,⟨zB⟩⟩
   case rest =>
    clear HC9
    try clear c1
    try clear c2
    try clear p2
    try clear c4
    try clear c6
    try clear c6b0
    try clear c6b1
    try clear c8
    try clear c8b0
    try clear c8b1
    try clear c10
    try clear c10b0
    try clear c11
    obtain⟨kq,x49_8,rfl,HA,HJ8,HB⟩:=hcut
    cases kq with
    | zero=>exact absurd HA.out (by simp [ya2.j0])
    | succ kj8 =>
     have H:=HA.out
     clear HA
     simp only[ya2.j0] at H
     by_cases c12:x49_8=true
     ·subst c12
      have H1:(some (([]:List Int),0,5))=some (r1,r2,r3):=by rw[if_pos rfl] at H;exact H
      clear H
      have H:=H1
      clear H1
      simp only[Option.some.injEq,Prod.mk.injEq] at H
      obtain⟨rfl,rfl,rfl⟩:=H
      go_wp2
      go_ret3
      exact⟨_,zG,zN,zB⟩
     ·replace c12:=Bool.eq_false_iff.mpr c12
      subst c12
      have H1:(if t793 > 200 then (ya2.j1 kj8 l0 l2 a3 t790 t793 t794 true) else (ya2.j1 kj8 l0 l2 a3 t790 t793 t794 (decide ((IntKind.u64.wrap (t790+t793)) > 200))))=some (r1,r2,r3):=by rw[if_neg (show ¬ (false=true) by decide)] at H;exact H
      clear H
      have H:=H1
      clear H1
      have HC13:=yaa.mk H
      clear H
      go_upto_region 9 with (fail)
      go_cut [57] (fun v57 wc=>∃ (kq:Nat) (x57_12:Bool),v57=.bool x57_12∧yaa (ya2.j1 kq l0 l2 a3 t790 t793 t794 x57_12=some (r1,r2,r3))∧yaa (kq≤kj8)∧yaa (Below w.heap.size w wc))
      case first =>
       have H:=HC13.out
       clear HC13
       by_cases c14:t793 > 200
       ·rw[if_pos c14] at H
        have c14b0:decide (200<t793)=true:=decide_eq_true c14
        clear c14
        (first|rw[c14b0]|(simp only[ybz,ycs];rw[c14b0])|skip)
        have H':=yaa.mk H
        clear H
        go_wp2
        go_meet
        case rel=>exact⟨_,(true),zF,H',⟨by have:=HJ8.out;first|omega|exact Nat.le_refl _⟩,⟨zB⟩⟩
       ·rw[if_neg c14] at H
        have c14b0:decide (200<t793)=false:=decide_eq_false c14
        clear c14
        (first|rw[c14b0]|(simp only[ybz,ycs];rw[c14b0])|skip)
        have H':=yaa.mk H
        clear H
        go_wp2
        go_meet
        case rel=>exact⟨_,(decide ((IntKind.u64.wrap (t790+t793)) > 200)),zF,H',⟨by have:=HJ8.out;first|omega|exact Nat.le_refl _⟩,⟨zB⟩⟩
      case rest =>
       clear HC13
       try clear c1
       try clear c2
       try clear p2
       try clear c4
       try clear c6
       try clear c6b0
       try clear c6b1
       try clear c8
       try clear c8b0
       try clear c8b1
       try clear c10
       try clear c10b0
       try clear c11
       try clear c12
       try clear c14
       try clear c14b0
       try clear p2
       obtain⟨kq,x57_12,rfl,HA,HJ12,HB⟩:=hcut
       cases kq with
       | zero=>exact absurd HA.out (by simp [ya2.j1])
       | succ kj12 =>
        have H:=HA.out
        clear HA
        simp only[ya2.j1] at H
        by_cases c15:x57_12=true
        ·subst c15
         have H1:(some (([]:List Int),0,4))=some (r1,r2,r3):=by rw[if_pos rfl] at H;exact H
         clear H
         have H:=H1
         clear H1
         simp only[Option.some.injEq,Prod.mk.injEq] at H
         obtain⟨rfl,rfl,rfl⟩:=H
         go_wp2
         go_ret3
         exact⟨_,zG,zN,zB⟩
        ·replace c15:=Bool.eq_false_iff.mpr c15
         subst c15
         have H1:(if t793 > (IntKind.u64.wrap (wrap64 ((l0.length:Int)-t794))) then (some (([]:List Int),0,2)) else ((yag.f kj12 l2 0 (wrap64 (t790))).bind fun t796=>((yag.f kj12 l0 t794 (wrap64 (t794+(wrap64 (t793))))).bind fun t799=>((yaz.f kj12 t796 t799).bind fun t802=>(if a3=true then (some (t802,wrap64 (t794+(wrap64 (t793))),0)) else ((ybo.f kj12 l2 t802).bind fun t805=>(if t805 > (wrap64 (t790)) then (some (([]:List Int),0,5)) else (some (t802,wrap64 (t794+(wrap64 (t793))),0)))))))))=some (r1,r2,r3):=by rw[if_neg (show ¬ (false=true) by decide)] at H;exact H
         clear H
         have H:=H1
         clear H1
         by_cases c16:t793 > (IntKind.u64.wrap (wrap64 ((l0.length:Int)-t794)))
         ·rw[if_pos c16] at H
          have c16b0:decide ((IntKind.u64.wrap (wrap64 ((l0.length:Int)-t794)))<t793)=true:=decide_eq_true c16
          clear c16
          simp only[Option.some.injEq,Prod.mk.injEq] at H
          obtain⟨rfl,rfl,rfl⟩:=H
          go_wp2
          go_ret3
          exact⟨_,zG,zN,zB⟩
         ·rw[if_neg c16] at H
          have c16b0:decide ((IntKind.u64.wrap (wrap64 ((l0.length:Int)-t794)))<t793)=false:=decide_eq_false c16
          clear c16
          replace H:=Option.bind_eq_some_iff.mp H
          obtain⟨t796,A170,H⟩:=H
          try dsimp only at H
          have A17:=yaa.mk A170
          clear A170
          replace H:=Option.bind_eq_some_iff.mp H
          obtain⟨t799,A180,H⟩:=H
          try dsimp only at H
          have A18:=yaa.mk A180
          clear A180
          replace H:=Option.bind_eq_some_iff.mp H
          obtain⟨t802,A190,H⟩:=H
          try dsimp only at H
          have A19:=yaa.mk A190
          clear A190
          by_cases c20:a3=true
          ·subst c20
           have H1:(some (t802,wrap64 (t794+(wrap64 (t793))),0))=some (r1,r2,r3):=by rw[if_pos rfl] at H;exact H
           clear H
           have H:=H1
           clear H1
           simp only[Option.some.injEq,Prod.mk.injEq] at H
           obtain⟨rfl,rfl,rfl⟩:=H
           go_wp2_with (first|((with_reducible refine yad (f:=43) rfl ?_);refine yak (some 68) rfl rfl Tryz.func43 (by kernel_rfl) rfl #[.slice A2 l2.length c2,.int .i64 0,.int .i64 (wrap64 (t790))] rfl zE ?_;(with_reducible refine(yag.calls kj12 _ _ l2 0 (wrap64 (t790)) t796 _ ?side1 ?side2 A17.out).mono ?_);(case side1=>exact zC (Kd.C_below HR2.out HB.out));(case side2=>exact HC2.out);rintro e w21 ⟨v797,rfl,ho0,hb⟩;refine⟨_,rfl,?_⟩;have n0_:=yaa.mk (Kd.R_lower ho0 (yaf zB));have n1_:=yaa.mk (yai zB hb);clear HB;have HO798:=n0_;have HB:=n1_;clear n0_ n1_;(try clear hb);(try clear hb2);(try clear hk);(try clear hi);(try clear ho0))|((with_reducible refine yad (f:=43) rfl ?_);refine yak (some 75) rfl rfl Tryz.func43 (by kernel_rfl) rfl #[.slice A0 l0.length c0,.int .i64 t794,.int .i64 (wrap64 (t794+(wrap64 (t793))))] rfl zE ?_;(with_reducible refine(yag.calls kj12 _ _ l0 t794 (wrap64 (t794+(wrap64 (t793)))) t799 _ ?side1 ?side2 A18.out).mono ?_);(case side1=>exact zC (Kd.C_below HR0.out HB.out));(case side2=>exact HC0.out);rintro e w22 ⟨v800,rfl,ho0,hb⟩;refine⟨_,rfl,?_⟩;have n0_:=yaa.mk (Kd.R_elder' (zR HO798.out) (Kd.R_base ho0) hb);have n1_:=yaa.mk (Kd.R_lower (Kd.R_new' ho0 (Kd.R_lt (zR HO798.out))) (yaf zB));have n2_:=yaa.mk (yai zB hb);clear HO798;clear HB;have HO798:=n0_;have HO801:=n1_;have HB:=n2_;clear n0_ n1_ n2_;(try clear hb);(try clear hb2);(try clear hk);(try clear hi);(try clear ho0);obtain⟨Ao23,co23,eo23⟩:=Kd.R_slice HO798.out;subst eo23;obtain⟨Ao24,co24,eo24⟩:=Kd.R_slice HO801.out;subst eo24)|((with_reducible refine yad (f:=47) rfl ?_);refine yak (some 76) rfl rfl Tryz.func47 (by kernel_rfl) rfl #[.slice Ao23 t796.length co23,.slice Ao24 t799.length co24] rfl zE ?_;(with_reducible refine(yaz.calls kj12 _ _ t796 _ _ t799 t802 _ ?side1 ?side2 ?side3 ?side4 A19.out).mono ?_);(case side1=>exact zC (Kd.R_reads' HO798.out).2.2);(case side2=>exact(Kd.R_reads' HO798.out).2.1);(case side3=>exact zC (Kd.R_reads' HO801.out).2.2);(case side4=>exact(Kd.R_reads' HO801.out).2.1);rintro e w25 ⟨v803,rfl,ho0,hb⟩;refine⟨_,rfl,?_⟩;have n0_:=yaa.mk (Kd.R_elder' (zR HO798.out) (Kd.R_base ho0) hb);have n1_:=yaa.mk (Kd.R_elder' (zR HO801.out) (Kd.R_base ho0) hb);have n2_:=yaa.mk (Kd.R_lower (Kd.R_new' (Kd.R_new' ho0 (Kd.R_lt (zR HO798.out))) (Kd.R_lt (zR HO801.out))) (yaf zB));have n3_:=yaa.mk (yai zB hb);clear HO798;clear HO801;clear HB;have HO798:=n0_;have HO801:=n1_;have HO804:=n2_;have HB:=n3_;clear n0_ n1_ n2_ n3_;(try clear hb);(try clear hb2);(try clear hk);(try clear hi);(try clear ho0)))
           go_ret3
           exact⟨_,zG,by (with_reducible repeat (first|apply Kd.R_alloc|apply Kd.R_drewN|apply Kd.R_drew));exact Kd.R_mono HO804.out (fun _ hk=>trivial),zB⟩
          ·replace c20:=Bool.eq_false_iff.mpr c20
           subst c20
           have H1:((ybo.f kj12 l2 t802).bind fun t805=>(if t805 > (wrap64 (t790)) then (some (([]:List Int),0,5)) else (some (t802,wrap64 (t794+(wrap64 (t793))),0))))=some (r1,r2,r3):=by rw[if_neg (show ¬ (false=true) by decide)] at H;exact H
           clear H
           have H:=H1
           clear H1
           replace H:=Option.bind_eq_some_iff.mp H
           obtain⟨t805,A260,H⟩:=H
           try dsimp only at H
           have A26:=yaa.mk A260
           clear A260
           by_cases c27:t805 > (wrap64 (t790))
           ·rw[if_pos c27] at H
            have c27b0:decide ((wrap64 (t790))<t805)=true:=decide_eq_true c27
            clear c27
            simp only[Option.some.injEq,Prod.mk.injEq] at H
            obtain⟨rfl,rfl,rfl⟩:=H
            go_wp2_with (first|((with_reducible refine yad (f:=43) rfl ?_);refine yak (some 68) rfl rfl Tryz.func43 (by kernel_rfl) rfl #[.slice A2 l2.length c2,.int .i64 0,.int .i64 (wrap64 (t790))] rfl zE ?_;(with_reducible refine(yag.calls kj12 _ _ l2 0 (wrap64 (t790)) t796 _ ?side1 ?side2 A17.out).mono ?_);(case side1=>exact zC (Kd.C_below HR2.out HB.out));(case side2=>exact HC2.out);rintro e w28 ⟨v797,rfl,ho0,hb⟩;refine⟨_,rfl,?_⟩;have n0_:=yaa.mk (Kd.R_lower ho0 (yaf zB));have n1_:=yaa.mk (yai zB hb);clear HB;have HO798:=n0_;have HB:=n1_;clear n0_ n1_;(try clear hb);(try clear hb2);(try clear hk);(try clear hi);(try clear ho0))|((with_reducible refine yad (f:=43) rfl ?_);refine yak (some 75) rfl rfl Tryz.func43 (by kernel_rfl) rfl #[.slice A0 l0.length c0,.int .i64 t794,.int .i64 (wrap64 (t794+(wrap64 (t793))))] rfl zE ?_;(with_reducible refine(yag.calls kj12 _ _ l0 t794 (wrap64 (t794+(wrap64 (t793)))) t799 _ ?side1 ?side2 A18.out).mono ?_);(case side1=>exact zC (Kd.C_below HR0.out HB.out));(case side2=>exact HC0.out);rintro e w29 ⟨v800,rfl,ho0,hb⟩;refine⟨_,rfl,?_⟩;have n0_:=yaa.mk (Kd.R_elder' (zR HO798.out) (Kd.R_base ho0) hb);have n1_:=yaa.mk (Kd.R_lower (Kd.R_new' ho0 (Kd.R_lt (zR HO798.out))) (yaf zB));have n2_:=yaa.mk (yai zB hb);clear HO798;clear HB;have HO798:=n0_;have HO801:=n1_;have HB:=n2_;clear n0_ n1_ n2_;(try clear hb);(try clear hb2);(try clear hk);(try clear hi);(try clear ho0);obtain⟨Ao30,co30,eo30⟩:=Kd.R_slice HO798.out;subst eo30;obtain⟨Ao31,co31,eo31⟩:=Kd.R_slice HO801.out;subst eo31)|((with_reducible refine yad (f:=47) rfl ?_);refine yak (some 76) rfl rfl Tryz.func47 (by kernel_rfl) rfl #[.slice Ao30 t796.length co30,.slice Ao31 t799.length co31] rfl zE ?_;(with_reducible refine(yaz.calls kj12 _ _ t796 _ _ t799 t802 _ ?side1 ?side2 ?side3 ?side4 A19.out).mono ?_);(case side1=>exact zC (Kd.R_reads' HO798.out).2.2);(case side2=>exact(Kd.R_reads' HO798.out).2.1);(case side3=>exact zC (Kd.R_reads' HO801.out).2.2);(case side4=>exact(Kd.R_reads' HO801.out).2.1);rintro e w32 ⟨v803,rfl,ho0,hb⟩;refine⟨_,rfl,?_⟩;have n0_:=yaa.mk (Kd.R_elder' (zR HO798.out) (Kd.R_base ho0) hb);have n1_:=yaa.mk (Kd.R_elder' (zR HO801.out) (Kd.R_base ho0) hb);have n2_:=yaa.mk (Kd.R_lower (Kd.R_new' (Kd.R_new' ho0 (Kd.R_lt (zR HO798.out))) (Kd.R_lt (zR HO801.out))) (yaf zB));have n3_:=yaa.mk (yai zB hb);clear HO798;clear HO801;clear HB;have HO798:=n0_;have HO801:=n1_;have HO804:=n2_;have HB:=n3_;clear n0_ n1_ n2_ n3_;(try clear hb);(try clear hb2);(try clear hk);(try clear hi);(try clear ho0);obtain⟨Ao33,co33,eo33⟩:=Kd.R_slice HO804.out;subst eo33)|(go_at_call 133;(with_reducible refine(ybo.calls kj12 _ _ l2 _ _ t802 t805 _ ?side1 ?side2 ?side3 ?side4 A26.out).mono ?_);(case side1=>exact zC (Kd.C_below HR2.out HB.out));(case side2=>exact HC2.out);(case side3=>exact zC (Kd.R_reads' HO804.out).2.2);(case side4=>exact(Kd.R_reads' HO804.out).2.1);rintro e w' ⟨rfl,⟨nd,rfl⟩⟩))
            go_ret3
            exact⟨_,zG,zN,zB⟩
           ·rw[if_neg c27] at H
            have c27b0:decide ((wrap64 (t790))<t805)=false:=decide_eq_false c27
            clear c27
            simp only[Option.some.injEq,Prod.mk.injEq] at H
            obtain⟨rfl,rfl,rfl⟩:=H
            go_wp2_with (first|((with_reducible refine yad (f:=43) rfl ?_);refine yak (some 68) rfl rfl Tryz.func43 (by kernel_rfl) rfl #[.slice A2 l2.length c2,.int .i64 0,.int .i64 (wrap64 (t790))] rfl zE ?_;(with_reducible refine(yag.calls kj12 _ _ l2 0 (wrap64 (t790)) t796 _ ?side1 ?side2 A17.out).mono ?_);(case side1=>exact zC (Kd.C_below HR2.out HB.out));(case side2=>exact HC2.out);rintro e w34 ⟨v797,rfl,ho0,hb⟩;refine⟨_,rfl,?_⟩;have n0_:=yaa.mk (Kd.R_lower ho0 (yaf zB));have n1_:=yaa.mk (yai zB hb);clear HB;have HO798:=n0_;have HB:=n1_;clear n0_ n1_;(try clear hb);(try clear hb2);(try clear hk);(try clear hi);(try clear ho0))|((with_reducible refine yad (f:=43) rfl ?_);refine yak (some 75) rfl rfl Tryz.func43 (by kernel_rfl) rfl #[.slice A0 l0.length c0,.int .i64 t794,.int .i64 (wrap64 (t794+(wrap64 (t793))))] rfl zE ?_;(with_reducible refine(yag.calls kj12 _ _ l0 t794 (wrap64 (t794+(wrap64 (t793)))) t799 _ ?side1 ?side2 A18.out).mono ?_);(case side1=>exact zC (Kd.C_below HR0.out HB.out));(case side2=>exact HC0.out);rintro e w35 ⟨v800,rfl,ho0,hb⟩;refine⟨_,rfl,?_⟩;have n0_:=yaa.mk (Kd.R_elder' (zR HO798.out) (Kd.R_base ho0) hb);have n1_:=yaa.mk (Kd.R_lower (Kd.R_new' ho0 (Kd.R_lt (zR HO798.out))) (yaf zB));have n2_:=yaa.mk (yai zB hb);clear HO798;clear HB;have HO798:=n0_;have HO801:=n1_;have HB:=n2_;clear n0_ n1_ n2_;(try clear hb);(try clear hb2);(try clear hk);(try clear hi);(try clear ho0);obtain⟨Ao36,co36,eo36⟩:=Kd.R_slice HO798.out;subst eo36;obtain⟨Ao37,co37,eo37⟩:=Kd.R_slice HO801.out;subst eo37)|((with_reducible refine yad (f:=47) rfl ?_);refine yak (some 76) rfl rfl Tryz.func47 (by kernel_rfl) rfl #[.slice Ao36 t796.length co36,.slice Ao37 t799.length co37] rfl zE ?_;(with_reducible refine(yaz.calls kj12 _ _ t796 _ _ t799 t802 _ ?side1 ?side2 ?side3 ?side4 A19.out).mono ?_);(case side1=>exact zC (Kd.R_reads' HO798.out).2.2);(case side2=>exact(Kd.R_reads' HO798.out).2.1);(case side3=>exact zC (Kd.R_reads' HO801.out).2.2);(case side4=>exact(Kd.R_reads' HO801.out).2.1);rintro e w38 ⟨v803,rfl,ho0,hb⟩;refine⟨_,rfl,?_⟩;have n0_:=yaa.mk (Kd.R_elder' (zR HO798.out) (Kd.R_base ho0) hb);have n1_:=yaa.mk (Kd.R_elder' (zR HO801.out) (Kd.R_base ho0) hb);have n2_:=yaa.mk (Kd.R_lower (Kd.R_new' (Kd.R_new' ho0 (Kd.R_lt (zR HO798.out))) (Kd.R_lt (zR HO801.out))) (yaf zB));have n3_:=yaa.mk (yai zB hb);clear HO798;clear HO801;clear HB;have HO798:=n0_;have HO801:=n1_;have HO804:=n2_;have HB:=n3_;clear n0_ n1_ n2_ n3_;(try clear hb);(try clear hb2);(try clear hk);(try clear hi);(try clear ho0);obtain⟨Ao39,co39,eo39⟩:=Kd.R_slice HO804.out;subst eo39)|(go_at_call 133;(with_reducible refine(ybo.calls kj12 _ _ l2 _ _ t802 t805 _ ?side1 ?side2 ?side3 ?side4 A26.out).mono ?_);(case side1=>exact zC (Kd.C_below HR2.out HB.out));(case side2=>exact HC2.out);(case side3=>exact zC (Kd.R_reads' HO804.out).2.2);(case side4=>exact(Kd.R_reads' HO804.out).2.1);rintro e w' ⟨rfl,⟨nd,rfl⟩⟩))
            go_ret3
            exact⟨_,zG,by (with_reducible repeat (first|apply Kd.R_alloc|apply Kd.R_drewN|apply Kd.R_drew));exact Kd.R_mono HO804.out (fun _ hk=>trivial),zB⟩
  ·rw[if_neg c8] at H
   have c8b0:(t795 == 0)=false:=beq_eq_false_iff_ne.mpr c8
   have c8b1:(t795 != 0)=true:=bne_iff_ne.mpr c8
   simp only[Option.some.injEq,Prod.mk.injEq] at H
   obtain⟨rfl,rfl,rfl⟩:=H
   go_enter Tryz.func121,Tryz.ntmps121
   go_wp2_with (first|((with_reducible refine yad (f:=44) rfl ?_);refine yak (some 21) rfl rfl Tryz.func44 (by kernel_rfl) rfl #[.slice A0 l0.length c0,.int .i64 a1] rfl zE ?_;(with_reducible refine(yac.calls k _ _ l0 a1 t790 t791 t792 _ ?side1 ?side2 A5.out).mono ?_);(case side1=>exact zC HR0.out);(case side2=>exact HC0.out);rintro e w' ⟨rfl,⟨nd,rfl⟩⟩;refine⟨_,rfl,?_⟩)|((with_reducible refine yad (f:=44) rfl ?_);refine yak (some 31) rfl rfl Tryz.func44 (by kernel_rfl) rfl #[.slice A0 l0.length c0,.int .i64 t791] rfl zE ?_;(with_reducible refine(yac.calls k _ _ l0 t791 t793 t794 t795 _ ?side1 ?side2 A7.out).mono ?_);(case side1=>exact zC HR0.out);(case side2=>exact HC0.out);rintro e w' ⟨rfl,⟨nd,rfl⟩⟩;refine⟨_,rfl,?_⟩))
   go_ret3
   exact⟨_,zG,zN,zB⟩
 ·rw[if_neg c6] at H
  have c6b0:(t792 == 0)=false:=beq_eq_false_iff_ne.mpr c6
  have c6b1:(t792 != 0)=true:=bne_iff_ne.mpr c6
  simp only[Option.some.injEq,Prod.mk.injEq] at H
  obtain⟨rfl,rfl,rfl⟩:=H
  go_enter Tryz.func121,Tryz.ntmps121
  go_wp2_with (first|((with_reducible refine yad (f:=44) rfl ?_);refine yak (some 21) rfl rfl Tryz.func44 (by kernel_rfl) rfl #[.slice A0 l0.length c0,.int .i64 a1] rfl zE ?_;(with_reducible refine(yac.calls k _ _ l0 a1 t790 t791 t792 _ ?side1 ?side2 A5.out).mono ?_);(case side1=>exact zC HR0.out);(case side2=>exact HC0.out);rintro e w' ⟨rfl,⟨nd,rfl⟩⟩;refine⟨_,rfl,?_⟩))
  go_ret3
  exact⟨_,zG,zN,zB⟩
mutual
def ya7.l0:Nat→List Int→List Int→Int→Option (Bool)
 | 0,_,_,_=>none
 | k+1,x0,x1,x5=>if x5<(x1.length:Int) then (if 0≤x5 then (if x5<(x0.length:Int) then (if (rd x0 x5)=(rd x1 x5) then (ya7.l0 k x0 x1 (wrap64 (x5+1))) else (some false)) else (none)) else (none)) else (ya7.l1 k x0 x1 0)
def ya7.l1:Nat→List Int→List Int→Int→Option (Bool)
 | 0,_,_,_=>none
 | k+1,x0,x1,x6=>if x6<64 then (if 0≤(wrap64 ((x1.length:Int)+x6)) then (if (wrap64 ((x1.length:Int)+x6))<(x0.length:Int) then (if (rd x0 (wrap64 ((x1.length:Int)+x6)))=((wrap64 (192+(Int.tmod x6 7)))%256) then (ya7.l1 k x0 x1 (wrap64 (x6+1))) else (some false)) else (none)) else (none)) else (some true)
end
def ya7.f (k:Nat) (l0:List Int) (l1:List Int):Option (Bool):=if (l0.length:Int)=(wrap64 ((l1.length:Int)+64)) then (ya7.l0 k l0 l1 0) else (some false)
theorem ya7.calls (k:Nat) (A0:Option Addr) (c0:Nat) (l0:List Int) (A1:Option Addr) (c1:Nat) (l1:List Int) (r:Bool) (w:World) (hr0:Kd.C (Kd.int .u8) w A0 l0.length l0) (hc0:l0.length≤c0) (hr1:Kd.C (Kd.int .u8) w A1 l1.length l1) (hc1:l1.length≤c1) (h:ya7.f k l0 l1=some r) :
  Calls Tryz.prog 23 #[.slice A0 l0.length c0,.slice A1 l1.length c1] w fun e w'=>e=.returned (.bool r)∧yap w w':=by
 have HR0:=yaa.mk hr0
 have HC0:=yaa.mk hc0
 clear hr0 hc0
 have HR1:=yaa.mk hr1
 have HC1:=yaa.mk hc1
 clear hr1 hc1
 have H:(if (l0.length:Int)=(wrap64 ((l1.length:Int)+64)) then (ya7.l0 k l0 l1 0) else (some false))=some r:=h
 clear h
 by_cases c3:(l0.length:Int)=(wrap64 ((l1.length:Int)+64))
 ·rw[if_pos c3] at H
  have c3b0:((l0.length:Int) == (wrap64 ((l1.length:Int)+64)))=true:=beq_iff_eq.mpr c3
  have c3b1:((l0.length:Int) != (wrap64 ((l1.length:Int)+64)))=false:=bne_eq_false_iff_eq.mpr c3
  clear c3
  have H':=yaa.mk H
  clear H
  go_enter Tryz.func23,Tryz.ntmps23
  go_wp2
  repeat (go_quiet (fail);try go_wp2)
  go_loopg [5] k (fun kq v5 w'=>∃ (x5_1:Int),v5=.int .i64 x5_1∧yaa (ya7.l0 kq l0 l1 x5_1=some r)∧yaa (kq≤k)∧yap w w')
  case atStart=>exact⟨(0),zF,H',⟨Nat.le_refl _⟩,zD⟩
  case round =>
   clear H'
   try clear c1
   try clear c2
   try clear p2
   try clear c3
   try clear c3b0
   try clear c3b1
   obtain⟨x5_1,rfl,HA,HK1,⟨m1,rfl⟩⟩:=hrel
   cases gk with
   | zero=>exact absurd HA.out (by simp [ya7.l0])
   | succ k1 =>
    have H:=HA.out
    clear HA
    simp only[ya7.l0] at H
    by_cases c4:x5_1<(l1.length:Int)
    ·rw[if_pos c4] at H
     have c4b0:=decide_eq_true c4
     clear c4
     by_cases c5:0≤x5_1
     ·rw[if_pos c5] at H
      have c5b0:=decide_eq_true c5
      clear c5
      by_cases c6:x5_1<(l0.length:Int)
      ·rw[if_pos c6] at H
       have c6b0:=decide_eq_true c6
       clear c6
       by_cases c7:(rd l0 x5_1)=(rd l1 x5_1)
       ·rw[if_pos c7] at H
        have c7b0:((rd l0 x5_1) == (rd l1 x5_1))=true:=beq_iff_eq.mpr c7
        have c7b1:((rd l0 x5_1) != (rd l1 x5_1))=false:=bne_eq_false_iff_eq.mpr c7
        clear c7
        have H':=yaa.mk H
        clear H
        have p879:0≤(x5_1:Int):=of_decide_eq_true zA
        have q879:x5_1<(l0.length:Int):=of_decide_eq_true zA
        obtain⟨ad879,e879,hx879_0⟩:=Kd.at_int HR0.out x5_1 p879 q879
        cases e879
        replace p879:=eq_true p879
        replace q879:=eq_true q879
        have p880:0≤(x5_1:Int):=of_decide_eq_true zA
        have q880:x5_1<(l1.length:Int):=of_decide_eq_true zA
        obtain⟨ad880,e880,hx880_0⟩:=Kd.at_int HR1.out x5_1 p880 q880
        cases e880
        replace p880:=eq_true p880
        replace q880:=eq_true q880
        go_wp2
        repeat (go_quiet (fail);try go_wp2)
        go_roundg k1
        case measure=>have:=HK1.out;omega
        case rel=>exact⟨(wrap64 (x5_1+1)),zF,H',⟨by have:=HK1.out;omega⟩,zD⟩
       ·rw[if_neg c7] at H
        have c7b0:((rd l0 x5_1) == (rd l1 x5_1))=false:=beq_eq_false_iff_ne.mpr c7
        have c7b1:((rd l0 x5_1) != (rd l1 x5_1))=true:=bne_iff_ne.mpr c7
        obtain rfl:=Option.some.inj H
        have p879:0≤(x5_1:Int):=of_decide_eq_true zA
        have q879:x5_1<(l0.length:Int):=of_decide_eq_true zA
        obtain⟨ad879,e879,hx879_0⟩:=Kd.at_int HR0.out x5_1 p879 q879
        cases e879
        replace p879:=eq_true p879
        replace q879:=eq_true q879
        have p880:0≤(x5_1:Int):=of_decide_eq_true zA
        have q880:x5_1<(l1.length:Int):=of_decide_eq_true zA
        obtain⟨ad880,e880,hx880_0⟩:=Kd.at_int HR1.out x5_1 p880 q880
        cases e880
        replace p880:=eq_true p880
        replace q880:=eq_true q880
        go_wp2
        repeat (go_quiet (fail);try go_wp2)
        go_ret
        exact⟨zF,zD⟩
      ·rw[if_neg c6] at H
       exact absurd H (by simp)
     ·rw[if_neg c5] at H
      exact absurd H (by simp)
    ·rw[if_neg c4] at H
     have c4b0:=decide_eq_false c4
     clear c4
     have H':=yaa.mk H
     clear H
     go_wp2
     repeat (go_quiet (fail);try go_wp2)
     go_loopg [6] k1 (fun kq v6 w'=>∃ (x6_2:Int),v6=.int .i64 x6_2∧yaa (ya7.l1 kq l0 l1 x6_2=some r)∧yaa (kq≤k1)∧yap w w')
     case atStart=>exact⟨(0),zF,H',⟨Nat.le_refl _⟩,zD⟩
     case round =>
      clear H'
      try clear c1
      try clear c2
      try clear p2
      try clear c3
      try clear c3b0
      try clear c3b1
      try clear c4
      try clear c4b0
      try clear c5
      try clear c5b0
      try clear c6
      try clear c6b0
      try clear p6
      try clear c7
      try clear c7b0
      try clear c7b1
      try clear hx879_0
      try clear hx880_0
      try clear p2
      try clear p879
      try clear p880
      try clear q879
      try clear q880
      obtain⟨x6_2,rfl,HA,HK2,⟨m2,rfl⟩⟩:=hrel
      cases gk with
      | zero=>exact absurd HA.out (by simp [ya7.l1])
      | succ k2 =>
       have H:=HA.out
       clear HA
       simp only[ya7.l1] at H
       by_cases c8:x6_2<64
       ·rw[if_pos c8] at H
        have c8b0:=decide_eq_true c8
        clear c8
        obtain⟨ji9,hji9⟩:∃ j_:Int,(wrap64 ((l1.length:Int)+x6_2))=j_:=⟨_,rfl⟩
        replace H:(if 0≤(ji9) then (if (ji9)<(l0.length:Int) then (if (rd l0 (ji9))=((wrap64 (192+(Int.tmod x6_2 7)))%256) then (ya7.l1 k2 l0 l1 (wrap64 (x6_2+1))) else (some false)) else (none)) else (none))=some r:=by first|(rw[hji9] at H;exact H)|(simp only[hji9] at H ⊢;exact H)
        have hji9w:(IntKind.i64.wrap ((l1.length:Int)+x6_2))=ji9:=(ybz _).trans hji9
        by_cases c10:0≤(ji9)
        ·rw[if_pos c10] at H
         have c10b0:=decide_eq_true c10
         clear c10
         by_cases c11:(ji9)<(l0.length:Int)
         ·rw[if_pos c11] at H
          have c11b0:=decide_eq_true c11
          clear c11
          by_cases c12:(rd l0 (ji9))=((wrap64 (192+(Int.tmod x6_2 7)))%256)
          ·rw[if_pos c12] at H
           have c12b0:((rd l0 (ji9)) == ((wrap64 (192+(Int.tmod x6_2 7)))%256))=true:=beq_iff_eq.mpr c12
           have c12b1:((rd l0 (ji9)) != ((wrap64 (192+(Int.tmod x6_2 7)))%256))=false:=bne_eq_false_iff_eq.mpr c12
           clear c12
           have H':=yaa.mk H
           clear H
           have p881:0≤((ji9):Int):=of_decide_eq_true zA
           have q881:(ji9)<(l0.length:Int):=of_decide_eq_true zA
           obtain⟨ad881,e881,hx881_0⟩:=Kd.at_int HR0.out (ji9) p881 q881
           cases e881
           replace p881:=eq_true p881
           replace q881:=eq_true q881
           go_wp2
           repeat (go_quiet (fail);try go_wp2)
           go_roundg k2
           case measure=>have:=HK1.out;have:=HK2.out;omega
           case rel=>exact⟨(wrap64 (x6_2+1)),zF,H',⟨by have:=HK1.out;have:=HK2.out;omega⟩,zD⟩
          ·rw[if_neg c12] at H
           have c12b0:((rd l0 (ji9)) == ((wrap64 (192+(Int.tmod x6_2 7)))%256))=false:=beq_eq_false_iff_ne.mpr c12
           have c12b1:((rd l0 (ji9)) != ((wrap64 (192+(Int.tmod x6_2 7)))%256))=true:=bne_iff_ne.mpr c12
           obtain rfl:=Option.some.inj H
           have p881:0≤((ji9):Int):=of_decide_eq_true zA
           have q881:(ji9)<(l0.length:Int):=of_decide_eq_true zA
           obtain⟨ad881,e881,hx881_0⟩:=Kd.at_int HR0.out (ji9) p881 q881
           cases e881
           replace p881:=eq_true p881
           replace q881:=eq_true q881
           go_wp2
           repeat (go_quiet (fail);try go_wp2)
           go_ret
           exact⟨by first|rfl|(simp;done)|(simp only[← hji9] <;> (first|rfl|simp))|(simp [*];done),zD⟩
         ·rw[if_neg c11] at H
          exact absurd H (by simp)
        ·rw[if_neg c10] at H
         exact absurd H (by simp)
       ·rw[if_neg c8] at H
        have c8b0:=decide_eq_false c8
        clear c8
        obtain rfl:=Option.some.inj H
        go_wp2
        repeat (go_quiet (fail);try go_wp2)
        go_ret
        exact⟨zF,zD⟩
 ·rw[if_neg c3] at H
  have c3b0:((l0.length:Int) == (wrap64 ((l1.length:Int)+64)))=false:=beq_eq_false_iff_ne.mpr c3
  have c3b1:((l0.length:Int) != (wrap64 ((l1.length:Int)+64)))=true:=bne_iff_ne.mpr c3
  obtain rfl:=Option.some.inj H
  go_enter Tryz.func23,Tryz.ntmps23
  go_wp2
  repeat (go_quiet (fail);try go_wp2)
  go_ret
  exact⟨zF,zD⟩
end Go.Proofs.YteeikgjjgfdjgaaGreat.PK
end
