/-
  Parts of the proof: E14.
-/
import Derived.Test.YteeikgjjgfdjgaaGreatU13
import Derived.Test.YteeikgjjgfdjgaaGreatU11
set_option maxHeartbeats 8000000
set_option maxRecDepth 100000
section
namespace Go.Proofs.YteeikgjjgfdjgaaGreat.PK
open Go.RowKit YteeikgjjgfdjgaaGreatW.PrintWords YteeikgjjgfdjgaaGreatW.PrintLast YteeikgjjgfdjgaaGreatW.PrintMore
attribute [local go_sem] yco ycp yc5 yc4 yck ycl ycs yct
set_option linter.unusedVariables false
set_option linter.unusedSimpArgs false
mutual
def yaf.j0:Nat→List (List Int)→List Int→Int→Bool→Option ((List (List Int)))
 | 0,_,_,_,_=>none
 | k+1,x0,x1,x5,x23=>if x23=true then (some x0) else (yaf.l0 k x0 x1 x5 (([]:List (List Int))) 0)
def yaf.l0:Nat→List (List Int)→List Int→Int→List (List Int)→Int→Option ((List (List Int)))
 | 0,_,_,_,_,_=>none
 | k+1,x0,x1,x5,x6,x7=>if x7<x5 then (if 0≤x7 then (if x7<(x0.length:Int) then (if x6.length<5864062014805 then (yaf.l0 k x0 x1 x5 (x6++[ybb x0 x7]) (wrap64 (x7+1))) else (none)) else (none)) else (none)) else ((yas.f k x1).bind fun t731=>(if x6.length<5864062014805 then (yaf.l1 k x0 (x6++[t731]) x5) else (none)))
def yaf.l1:Nat→List (List Int)→List (List Int)→Int→Option ((List (List Int)))
 | 0,_,_,_=>none
 | k+1,x0,x6,x8=>if x8<(x0.length:Int) then (if 0≤x8 then (if x6.length<5864062014805 then (yaf.l1 k x0 (x6++[ybb x0 x8]) (wrap64 (x8+1))) else (none)) else (none)) else (some x6)
end
def yaf.f (k:Nat) (l0:List (List Int)) (l1:List Int):Option ((List (List Int))):=(yau.f k l0 l1).bind fun t721=>(if t721<(l0.length:Int) then (if 0≤t721 then ((yay.f k (ybb l0 t721) l1).bind fun t723=>(yaf.j0 k l0 l1 t721 t723)) else (none)) else (yaf.j0 k l0 l1 t721 false))
theorem yaf.mono_l:∀ k,(∀ y0 y1 y2 y3,LeO (yaf.j0 k y0 y1 y2 y3) (yaf.j0 (k+1) y0 y1 y2 y3))∧(∀ y0 y1 y2 y3 y4,LeO (yaf.l0 k y0 y1 y2 y3 y4) (yaf.l0 (k+1) y0 y1 y2 y3 y4))∧(∀ y0 y1 y2,LeO (yaf.l1 k y0 y1 y2) (yaf.l1 (k+1) y0 y1 y2))
 | 0=>⟨fun _ _ _ _ r h=>by simp [yaf.j0] at h,fun _ _ _ _ _ r h=>by simp [yaf.l0] at h,fun _ _ _ r h=>by simp [yaf.l1] at h⟩
 | k+1=>by
  obtain⟨ih0,ih1,ih2⟩:=yaf.mono_l k
  refine⟨?_,?_,?_⟩
  ·intro y0 y1 y2 y3
   unfold yaf.j0
   repeat' first
   | (with_reducible exact ih0 _ _ _ _)
   | (with_reducible exact ih1 _ _ _ _ _)
   | (with_reducible exact ih2 _ _ _)
   | (with_reducible exact yas.mono _ _)
   | (with_reducible exact yay.mono _ _ _)
   | (with_reducible exact yau.mono _ _ _)
   | (with_reducible exact LeO.refl _)
   | (with_reducible exact LeO.none _)
   | (with_reducible refine LeO.ite ?_ ?_)
   | (with_reducible refine LeO.bind ?_ (fun _=>?_))
  ·intro y0 y1 y2 y3 y4
   unfold yaf.l0
   repeat' first
   | (with_reducible exact ih0 _ _ _ _)
   | (with_reducible exact ih1 _ _ _ _ _)
   | (with_reducible exact ih2 _ _ _)
   | (with_reducible exact yas.mono _ _)
   | (with_reducible exact yay.mono _ _ _)
   | (with_reducible exact yau.mono _ _ _)
   | (with_reducible exact LeO.refl _)
   | (with_reducible exact LeO.none _)
   | (with_reducible refine LeO.ite ?_ ?_)
   | (with_reducible refine LeO.bind ?_ (fun _=>?_))
  ·intro y0 y1 y2
   unfold yaf.l1
   repeat' first
   | (with_reducible exact ih0 _ _ _ _)
   | (with_reducible exact ih1 _ _ _ _ _)
   | (with_reducible exact ih2 _ _ _)
   | (with_reducible exact yas.mono _ _)
   | (with_reducible exact yay.mono _ _ _)
   | (with_reducible exact yau.mono _ _ _)
   | (with_reducible exact LeO.refl _)
   | (with_reducible exact LeO.none _)
   | (with_reducible refine LeO.ite ?_ ?_)
   | (with_reducible refine LeO.bind ?_ (fun _=>?_))
theorem yaf.mono:∀ a0 a1 k,LeO (yaf.f k a0 a1) (yaf.f (k+1) a0 a1):=by
 intro a0 a1 k
 obtain⟨ih0,ih1,ih2⟩:=yaf.mono_l k
 unfold yaf.f
 repeat' first
   | (with_reducible exact ih0 _ _ _ _)
   | (with_reducible exact ih1 _ _ _ _ _)
   | (with_reducible exact ih2 _ _ _)
   | (with_reducible exact yas.mono _ _)
   | (with_reducible exact yay.mono _ _ _)
   | (with_reducible exact yau.mono _ _ _)
   | (with_reducible exact LeO.refl _)
   | (with_reducible exact LeO.none _)
   | (with_reducible refine LeO.ite ?_ ?_)
   | (with_reducible refine LeO.bind ?_ (fun _=>?_))
theorem yaf.calls (k:Nat) (P0_:Nat→Prop) (A0:Option Addr) (c0:Nat) (l0:List (List Int)) (A1:Option Addr) (c1:Nat) (l1:List Int) (r:List (List Int)) (w:World) (hs0:Kd.V (Kd.slice 5 (Kd.int .u8)) 25 w w.heap.size (fun k_=>P0_ k_) (.slice A0 l0.length c0) l0) (hr1:Kd.C (Kd.int .u8) w A1 l1.length l1) (hc1:l1.length≤c1) (h:yaf.f k l0 l1=some r) :
  Calls Tryz.prog 142 #[.slice A0 l0.length c0,.slice A1 l1.length c1] w fun e w'=>∃ v0_:Value,e=.returned (v0_)∧Kd.V (Kd.slice 5 (Kd.int .u8)) 25 w' w.heap.size (fun k_=>(P0_ k_∨w.heap.size≤k_)) v0_ r∧Below w.heap.size w w':=by
 have HO0:=yaa.mk (show Kd.V (Kd.slice 5 (Kd.int .u8)) 25 w w.heap.size (fun k_=>(P0_ k_∨w.heap.size≤k_)) (.slice A0 l0.length c0) l0 from Kd.V_mono hs0 (fun k_ hk=>.inl hk))
 have HR1:=yaa.mk hr1
 have HC1:=yaa.mk hc1
 clear hr1 hc1
 have HB:=yaa.mk (Below.refl w.heap.size w)
 have H:((yau.f k l0 l1).bind fun t721=>(if t721<(l0.length:Int) then (if 0≤t721 then ((yay.f k (ybb l0 t721) l1).bind fun t723=>(yaf.j0 k l0 l1 t721 t723)) else (none)) else (yaf.j0 k l0 l1 t721 false)))=some r:=h
 clear h
 replace H:=Option.bind_eq_some_iff.mp H
 obtain⟨t721,A30,H⟩:=H
 try dsimp only at H
 have A3:=yaa.mk A30
 clear A30
 have HC4:=yaa.mk H
 clear H
 go_enter Tryz.func142,Tryz.ntmps142
 go_upto_region 2 with (first|((with_reducible refine yah (f:=143) rfl ?_);refine ya6 (some 11) rfl rfl Tryz.func143 (by kernel_rfl) rfl #[.slice A0 l0.length c0,.slice A1 l1.length c1] rfl zE ?_;(with_reducible refine(yau.calls k _ _ l0 _ _ l1 t721 _ ?side1 ?side2 ?side3 ?side4 A3.out).mono ?_);(case side1=>exact zC (Kd.V_reads' HO0.out).2.2);(case side2=>exact(Kd.V_reads' HO0.out).2.1);(case side3=>exact zC HR1.out);(case side4=>exact HC1.out);rintro e w' ⟨rfl,⟨nd,rfl⟩⟩;refine⟨_,rfl,?_⟩))
 (try simp only[Act.put,List.setIfInBounds_toArray,List.set_cons_zero,List.set_cons_succ])
 go_cut [23] (fun v23 wc=>∃ (kq:Nat) (x23_3:Bool),v23=.bool x23_3∧yaa (yaf.j0 kq l0 l1 t721 x23_3=some r)∧yaa (kq≤k)∧yaa (Kd.V (Kd.slice 5 (Kd.int .u8)) 25 wc w.heap.size (fun k_=>(P0_ k_∨w.heap.size≤k_)) (.slice A0 l0.length c0) l0)∧yaa (Below w.heap.size w wc))
 case first =>
  have H:=HC4.out
  clear HC4
  by_cases c5:t721<(l0.length:Int)
  ·rw[if_pos c5] at H
   have c5b0:=decide_eq_true c5
   clear c5
   (first|rw[c5b0]|(simp only[ya4,yba];rw[c5b0])|skip)
   by_cases c6:0≤t721
   ·rw[if_pos c6] at H
    have c6b0:=decide_eq_true c6
    clear c6
    replace H:=Option.bind_eq_some_iff.mp H
    obtain⟨t723,A70,H⟩:=H
    try dsimp only at H
    have A7:=yaa.mk A70
    clear A70
    have H':=yaa.mk H
    clear H
    have p722:0≤(t721:Int):=of_decide_eq_true zA
    have q722:t721<(l0.length:Int):=of_decide_eq_true zA
    obtain⟨ad722,A722_0,c722_0,e722,hx722_0,hl722_0,hi722_0⟩:=yd8 (Kd.V_reads' HO0.out).2.2 t721 p722 q722
    cases e722
    obtain⟨ce722,hce722,hMe722,hcc722⟩:=Kd.V_get HO0.out [] t721 p722 (by first|exact q722|exact of_decide_eq_true zA|(have e_:=(Kd.V_reads' HO0.out).1;omega))
    obtain⟨ua722_0,uc722_0,rfl,ul722_0,ge722_0⟩:=Kd.FK_slice_open hMe722
    have hv722_0:=hcc722 0 _ rfl
    rw[Nat.add_zero,show((Kd.slice 5 (Kd.int .u8))).sz=1 from rfl,Nat.mul_one] at hv722_0
    replace hv722_0:=Option.some.inj (hv722_0.symm.trans hx722_0)
    injection hv722_0 with hva_ hvn_ hvc_
    rw[hva_] at ge722_0
    rw[hvc_] at ul722_0
    have HL722_0:=yaa.mk (show Kd.V (Kd.int .u8) 5 _ w.heap.size _ _ (ybb l0 t721) from Kd.V_mk ul722_0 ge722_0)
    clear hva_ hvn_ hvc_ ge722_0 ul722_0
    clear hcc722 hce722
    have HR722_0:=yaa.mk hi722_0
    have HC722_0:=yaa.mk hl722_0
    clear hi722_0 hl722_0
    replace p722:=eq_true p722
    replace q722:=eq_true q722
    go_wp2_with (first|(go_at_call 17;(with_reducible refine(yay.calls k _ _ (ybb l0 t721) _ _ l1 t723 _ ?side1 ?side2 ?side3 ?side4 A7.out).mono ?_);(case side1=>repeat (first|exact(by repeat (first|(with_reducible exact HR722_0.out)|(with_reducible refine Kd.C_alloc ?_ _)|(with_reducible refine Kd.C_drewN ?_ _)|(with_reducible refine Kd.C_drew ?_)|exact HR722_0.out))|(with_reducible refine Kd.C_alloc ?_ _)|(with_reducible refine Kd.C_drewN ?_ _)|(with_reducible refine Kd.C_drew ?_)));(case side2=>exact HC722_0.out);(case side3=>exact zC (Kd.C_below HR1.out HB.out));(case side4=>exact HC1.out);rintro e w' ⟨rfl,⟨nd,rfl⟩⟩))
    go_meet
    case rel=>exact⟨_,(t723),zF,H',⟨by first|omega|exact Nat.le_refl _⟩,⟨by (with_reducible repeat (first|apply Kd.V_alloc|apply Kd.V_drewN|apply Kd.V_drew));exact HO0.out⟩,⟨zB⟩⟩
   ·rw[if_neg c6] at H
    exact absurd H (by simp)
  ·rw[if_neg c5] at H
   have c5b0:=decide_eq_false c5
   clear c5
   (first|rw[c5b0]|(simp only[ya4,yba];rw[c5b0])|skip)
   have H':=yaa.mk H
   clear H
   go_wp2
   go_meet
   case rel=>exact⟨_,(false),zF,H',⟨by first|omega|exact Nat.le_refl _⟩,⟨by (with_reducible repeat (first|apply Kd.V_alloc|apply Kd.V_drewN|apply Kd.V_drew));exact HO0.out⟩,⟨zB⟩⟩
 case rest =>
  clear HC4
  try clear c1
  try clear p2
  try clear c5
  try clear c5b0
  try clear c6
  try clear c6b0
  try clear c7
  try clear p7
  try clear q7
  try clear hx7
  try clear hx722_0
  try clear p722
  try clear q722
  obtain⟨kq,x23_3,rfl,HA,HJ3,HO_0,HB⟩:=hcut
  cases kq with
  | zero=>exact absurd HA.out (by simp [yaf.j0])
  | succ kj3 =>
   have H:=HA.out
   clear HA
   simp only[yaf.j0] at H
   by_cases c8:x23_3=true
   ·subst c8
    have H1:(some l0)=some r:=by rw[if_pos rfl] at H;exact H
    clear H
    have H:=H1
    clear H1
    obtain rfl:=Option.some.inj H
    go_wp2
    go_ret
    exact⟨_,zG,by (with_reducible repeat (first|apply Kd.V_alloc|apply Kd.V_drewN|apply Kd.V_drew));exact HO_0.out,zB⟩
   ·replace c8:=Bool.eq_false_iff.mpr c8
    subst c8
    have H1:(yaf.l0 kj3 l0 l1 t721 (([]:List (List Int))) 0)=some r:=by rw[if_neg (show ¬ (false=true) by decide)] at H;exact H
    clear H
    have H:=H1
    clear H1
    obtain⟨y724,hy724⟩:∃ y_:List (List Int),y_=(([]:List (List Int))):=⟨_,rfl⟩
    replace H:(yaf.l0 kj3 l0 l1 t721 y724 0)=some r:=by first|(rw[hy724];with_reducible exact H)|(have H2_:=(Option.bind_some _ _).symm.trans H;rw[hy724];with_reducible exact H2_)|(have H2_:=(Option.bind_some _ _).symm.trans H;with_reducible exact H2_)|with_reducible exact H|(rw[hy724];exact H)|exact H
    have Ny724:=yaa.mk hy724
    clear hy724
    have H':=yaa.mk H
    clear H
    go_wp2_with (first|((with_reducible refine yb1 (N:=25) rfl ?_);refine Kd.N_lit (Kd.slice 5 (Kd.int .u8)) _ 25 ?hg (N':=25) ?hd (xs:=([]:List (List Int))) (inner:=[]) (ok:=(fun k_=>(P0_ k_∨w.heap.size≤k_))) (okp:=(fun k_=>(P0_ k_∨w.heap.size≤k_))) ?hr ?hp (fun _ hk=>hk) ((show ∀ k_,wc.heap.size≤k_→(fun k_=>(P0_ k_∨w.heap.size≤k_)) k_ from fun k_ hk=>(.inr (Nat.le_trans (yac zB) hk))) _ (Nat.le_refl _)) (Below.refl _ _) (Nat.le_refl _) (by simp) ?_;(case hd=>rfl);(case hg=>rfl);(case hr=>first|(go_simp;done)|(go_simp;rfl));(case hp=>exact(Reps.none _ _));intro v725 w9 ho10 hb hg_ hnew_;clear hg_ hnew_;(first|rw[← Ny724.out] at ho10|(simp only[Int.reduceToNat] at ho10;rw[← Ny724.out] at ho10));have n0_:=yaa.mk (Kd.V_elder' (by (with_reducible repeat (first|apply Kd.V_alloc|apply Kd.V_drewN|apply Kd.V_drew));exact HO_0.out) (Kd.N_base ho10) hb);have n1_:=yaa.mk (Kd.N_lower ho10 (yac zB));have n2_:=yaa.mk (yai zB hb);clear HO_0;clear HB;have HO_0:=n0_;have HO726:=n1_;have HB:=n2_;clear n0_ n1_ n2_;clear hb ho10))
    go_loopg [6,7] kj3 (fun kq v6 v7 w'=>∃ (x6_2:List (List Int)) (x7_2:Int),v7=.int .i64 x7_2∧yaa (yaf.l0 kq l0 l1 t721 x6_2 x7_2=some r)∧yaa (kq≤kj3)∧yaa (Kd.V (Kd.slice 5 (Kd.int .u8)) 25 w' w.heap.size (fun k_=>(P0_ k_∨w.heap.size≤k_)∧some k_≠(v6:Value).ownBlock) (.slice A0 l0.length c0) l0)∧yaa (Kd.N (Kd.slice 5 (Kd.int .u8)) 25 w' w.heap.size (fun k_=>(P0_ k_∨w.heap.size≤k_)) v6 x6_2)∧yaa (Below w.heap.size w w'))
    case atStart=>exact⟨(y724),(0),zF,H',⟨Nat.le_refl _⟩,⟨by (with_reducible repeat (first|apply Kd.V_alloc|apply Kd.V_drewN|apply Kd.V_drew));exact HO_0.out⟩,⟨by (with_reducible repeat (first|apply Kd.N_alloc|apply Kd.N_drewN|apply Kd.N_drew));exact HO726.out⟩,⟨zB⟩⟩
    case round =>
     clear H'
     try clear c1
     try clear p2
     try clear c5
     try clear c5b0
     try clear c6
     try clear c6b0
     try clear c7
     try clear p7
     try clear q7
     try clear hx7
     try clear c8
     try clear hx722_0
     try clear p2
     try clear p7
     try clear p722
     try clear q7
     try clear q722
     obtain⟨x6_2,x7_2,rfl,HA,HK2,HO_0,HO_6,HB⟩:=hrel
     cases gk with
     | zero=>exact absurd HA.out (by simp [yaf.l0])
     | succ k2 =>
      have H:=HA.out
      clear HA
      simp only[yaf.l0] at H
      by_cases c11:x7_2<t721
      ·rw[if_pos c11] at H
       have c11b0:=decide_eq_true c11
       clear c11
       by_cases c12:0≤x7_2
       ·rw[if_pos c12] at H
        have c12b0:=decide_eq_true c12
        clear c12
        by_cases c13:x7_2<(l0.length:Int)
        ·rw[if_pos c13] at H
         have c13b0:=decide_eq_true c13
         clear c13
         by_cases c14:x6_2.length<5864062014805
         ·rw[if_pos c14] at H
          have LMc14:=yaa.mk c14
          clear c14
          obtain⟨y728,hy728⟩:∃ y_:List (List Int),y_=(x6_2++[ybb l0 x7_2]):=⟨_,rfl⟩
          replace H:(yaf.l0 k2 l0 l1 t721 y728 (wrap64 (x7_2+1)))=some r:=by first|(rw[hy728];with_reducible exact H)|(have H2_:=(Option.bind_some _ _).symm.trans H;rw[hy728];with_reducible exact H2_)|(have H2_:=(Option.bind_some _ _).symm.trans H;with_reducible exact H2_)|with_reducible exact H|(rw[hy728];exact H)|exact H
          have Ny728:=yaa.mk hy728
          clear hy728
          have H':=yaa.mk H
          clear H
          have p727:0≤(x7_2:Int):=of_decide_eq_true zA
          have q727:x7_2<(l0.length:Int):=of_decide_eq_true zA
          obtain⟨ad727,A727_0,c727_0,e727,hx727_0,hl727_0,hi727_0⟩:=yd8 (Kd.V_reads' HO_0.out).2.2 x7_2 p727 q727
          cases e727
          obtain⟨ce727,hce727,hMe727,hcc727⟩:=Kd.V_get HO_0.out [] x7_2 p727 (by first|exact q727|exact of_decide_eq_true zA|(have e_:=(Kd.V_reads' HO_0.out).1;omega))
          obtain⟨ua727_0,uc727_0,rfl,ul727_0,ge727_0⟩:=Kd.FK_slice_open hMe727
          have hv727_0:=hcc727 0 _ rfl
          rw[Nat.add_zero,show((Kd.slice 5 (Kd.int .u8))).sz=1 from rfl,Nat.mul_one] at hv727_0
          replace hv727_0:=Option.some.inj (hv727_0.symm.trans hx727_0)
          injection hv727_0 with hva_ hvn_ hvc_
          rw[hva_] at ge727_0
          rw[hvc_] at ul727_0
          have HL727_0:=yaa.mk (show Kd.V (Kd.int .u8) 5 _ w.heap.size _ _ (ybb l0 x7_2) from Kd.V_mk ul727_0 ge727_0)
          clear hva_ hvn_ hvc_ ge727_0 ul727_0
          clear hcc727 hce727
          have HR727_0:=yaa.mk hi727_0
          have HC727_0:=yaa.mk hl727_0
          clear hi727_0 hl727_0
          replace p727:=eq_true p727
          replace q727:=eq_true q727
          go_wp2_with (first|((with_reducible refine ybe (b:=.append) (xs:=#[.tmp 31,.tmp 36]) rfl ?_);at_builtin;refine Kd.N_append (Kd.slice 5 (Kd.int .u8)) (w0:=w) w.heap.size rfl (.tmp 31) (.tmp 36) 46 25 (.slice none 0 0) 24 rfl Tryz.underlying46 ygm rfl (by decide) (by omega) u6 x6_2 (ybb l0 x7_2) [.slice A727_0 (ybb l0 x7_2).length c727_0] (fun k_=>(P0_ k_∨w.heap.size≤k_)) (fun k_=>((fun k_=>(P0_ k_∨w.heap.size≤k_))) k_∧some k_≠(u6:Value).ownBlock) rfl rfl ?aP (fun _ hk=>hk) ?aF ?aO ?aB ?aS ?aL ?_;(case aP=>exact(Kd.FK_slice_mk (Kd.V_reads' (Kd.V_mono (ok':=(fun k_=>((fun k_=>(P0_ k_∨w.heap.size≤k_))) k_∧some k_≠(u6:Value).ownBlock)) (HL727_0.out) (fun k_ hk=>⟨hk.1,hk.2⟩))).2.1 (Kd.V_F (Kd.V_mono (ok':=(fun k_=>((fun k_=>(P0_ k_∨w.heap.size≤k_))) k_∧some k_≠(u6:Value).ownBlock)) (HL727_0.out) (fun k_ hk=>⟨hk.1,hk.2⟩)))));(case aB=>exact zB);(case aF=>exact(fun k_ hk=>(.inr (Nat.le_trans (yac zB) hk))));(case aO=>exact(by (with_reducible repeat (first|apply Kd.N_alloc|apply Kd.N_drewN|apply Kd.N_drew));exact HO_6.out));(case aS=>exact(yac zB));(case aL=>have:=LMc14.out;omega);intro v729 w15 ho hb hg hat;rw[← Ny728.out] at ho;have n0_:=yaa.mk (Kd.V_afterv (ok:=(fun k_=>(P0_ k_∨w.heap.size≤k_))) (by (with_reducible repeat (first|apply Kd.V_alloc|apply Kd.V_drewN|apply Kd.V_drew));exact HO_0.out) hg hat);have n1_:=yaa.mk (Kd.V_afterv (ok:=(fun k_=>(P0_ k_∨w.heap.size≤k_))) (by (with_reducible repeat (first|apply Kd.V_alloc|apply Kd.V_drewN|apply Kd.V_drew));exact HL727_0.out) hg hat);have n2_:=yaa.mk (hb);have n3_:=yaa.mk (ho);clear HO_0;clear HL727_0;clear HB;clear HO_6;have HO_0:=n0_;have HL727_0:=n1_;have HB:=n2_;have HO730:=n3_;clear n0_ n1_ n2_ n3_;clear ho hb hg hat))
          go_roundg k2
          case measure=>have:=HJ3.out;have:=HK2.out;omega
          case rel=>exact⟨(y728),(wrap64 (x7_2+1)),zF,H',⟨by have:=HJ3.out;have:=HK2.out;omega⟩,⟨by (with_reducible repeat (first|apply Kd.V_alloc|apply Kd.V_drewN|apply Kd.V_drew));exact HO_0.out⟩,⟨by (with_reducible repeat (first|apply Kd.N_alloc|apply Kd.N_drewN|apply Kd.N_drew));exact HO730.out⟩,⟨zB⟩⟩
         ·rw[if_neg c14] at H
          exact absurd H (by simp)
        ·rw[if_neg c13] at H
         exact absurd H (by simp)
       ·rw[if_neg c12] at H
        exact absurd H (by simp)
      ·rw[if_neg c11] at H
       have c11b0:=decide_eq_false c11
       clear c11
       replace H:=Option.bind_eq_some_iff.mp H
       obtain⟨t731,A160,H⟩:=H
       try dsimp only at H
       have A16:=yaa.mk A160
       clear A160
       by_cases c17:x6_2.length<5864062014805
       ·rw[if_pos c17] at H
        have LMc17:=yaa.mk c17
        clear c17
        obtain⟨y734,hy734⟩:∃ y_:List (List Int),y_=(x6_2++[t731]):=⟨_,rfl⟩
        replace H:(yaf.l1 k2 l0 y734 t721)=some r:=by first|(rw[hy734];with_reducible exact H)|(have H2_:=(Option.bind_some _ _).symm.trans H;rw[hy734];with_reducible exact H2_)|(have H2_:=(Option.bind_some _ _).symm.trans H;with_reducible exact H2_)|with_reducible exact H|(rw[hy734];exact H)|exact H
        have Ny734:=yaa.mk hy734
        clear hy734
        have H':=yaa.mk H
        clear H
        go_wp2_with (first|((with_reducible refine yah (f:=24) rfl ?_);refine ya6 (some 40) rfl rfl Tryz.func24 (by kernel_rfl) rfl #[.slice A1 l1.length c1] rfl zE ?_;(with_reducible refine(yas.calls k2 _ _ l1 t731 _ ?side1 ?side2 A16.out).mono ?_);(case side1=>exact zC (Kd.C_below HR1.out HB.out));(case side2=>exact HC1.out);rintro e w18 ⟨v732,rfl,ho0,hb⟩;refine⟨_,rfl,?_⟩;have n0_:=yaa.mk (Kd.V_elder' (by (with_reducible repeat (first|apply Kd.V_alloc|apply Kd.V_drewN|apply Kd.V_drew));exact HO_0.out) (Kd.R_base ho0) hb);have n1_:=yaa.mk (Kd.N_elder' (by (with_reducible repeat (first|apply Kd.N_alloc|apply Kd.N_drewN|apply Kd.N_drew));exact HO_6.out) (Kd.R_base ho0) hb);have n2_:=yaa.mk (Kd.R_lower (Kd.R_newM (M:=fun k_=>(w.heap.size≤k_)) ho0 (yac zB) (fun k_ h_=>h_)) (yac zB));have n3_:=yaa.mk (yai zB hb);clear HO_0;clear HO_6;clear HB;have HO_0:=n0_;have HO_6:=n1_;have HO733:=n2_;have HB:=n3_;clear n0_ n1_ n2_ n3_;(try clear hb);(try clear hb2);(try clear hk);(try clear hi);(try clear ho0);obtain⟨Ao20,co20,eo20⟩:=Kd.R_slice HO733.out;subst eo20)|((with_reducible refine ybe (b:=.append) (xs:=#[.tmp 38,.tmp 41]) rfl ?_);at_builtin;refine Kd.N_append (Kd.slice 5 (Kd.int .u8)) (w0:=w) w.heap.size rfl (.tmp 38) (.tmp 41) 46 25 (.slice none 0 0) 24 rfl Tryz.underlying46 ygm rfl (by decide) (by omega) u6 x6_2 t731 [.slice Ao20 t731.length co20] (fun k_=>(P0_ k_∨w.heap.size≤k_)) (fun k_=>((fun k_=>(P0_ k_∨w.heap.size≤k_))) k_∧some k_≠(u6:Value).ownBlock) rfl rfl ?aP (fun _ hk=>hk) ?aF ?aO ?aB ?aS ?aL ?_;(case aP=>exact(Kd.FK_slice_mk (Kd.R_reads' (Kd.R_mono (ok':=(fun k_=>((fun k_=>(P0_ k_∨w.heap.size≤k_))) k_∧some k_≠(u6:Value).ownBlock)) (Kd.R_apart' (HO733.out) (Kd.N_typed HO_6.out) (by decide)) (fun k_ hk=>⟨(.inr (hk.1.1)),hk.2⟩))).2.1 (Kd.R_F (Kd.R_mono (ok':=(fun k_=>((fun k_=>(P0_ k_∨w.heap.size≤k_))) k_∧some k_≠(u6:Value).ownBlock)) (Kd.R_apart' (HO733.out) (Kd.N_typed HO_6.out) (by decide)) (fun k_ hk=>⟨(.inr (hk.1.1)),hk.2⟩)))));(case aB=>exact zB);(case aF=>exact(fun k_ hk=>(.inr (Nat.le_trans (yac zB) hk))));(case aO=>exact(by (with_reducible repeat (first|apply Kd.N_alloc|apply Kd.N_drewN|apply Kd.N_drew));exact Kd.N_mono HO_6.out (fun _ hk=>hk.1)));(case aS=>exact(yac zB));(case aL=>have:=LMc17.out;omega);intro v735 w19 ho hb hg hat;rw[← Ny734.out] at ho;have n0_:=yaa.mk (Kd.V_afterv (ok:=(fun k_=>(P0_ k_∨w.heap.size≤k_)∧some k_≠(.slice Ao20 t731.length co20:Value).ownBlock)) (by (with_reducible repeat (first|apply Kd.V_alloc|apply Kd.V_drewN|apply Kd.V_drew));exact Kd.V_mono HO_0.out (fun _ hk=>⟨⟨hk.1.1,hk.2⟩,hk.1.2⟩)) hg hat);have n1_:=yaa.mk (hb);have n2_:=yaa.mk (ho);clear HO_0;clear HB;clear HO_6;clear HO733;have HO_0:=n0_;have HB:=n1_;have HO736:=n2_;clear n0_ n1_ n2_;clear ho hb hg hat))
        go_loopg [6,8] k2 (fun kq v6 v8 w'=>∃ (x6_3:List (List Int)) (x8_3:Int),v8=.int .i64 x8_3∧yaa (yaf.l1 kq l0 x6_3 x8_3=some r)∧yaa (kq≤k2)∧yaa (Kd.V (Kd.slice 5 (Kd.int .u8)) 25 w' w.heap.size (fun k_=>(P0_ k_∨w.heap.size≤k_)∧some k_≠(v6:Value).ownBlock) (.slice A0 l0.length c0) l0)∧yaa (Kd.N (Kd.slice 5 (Kd.int .u8)) 25 w' w.heap.size (fun k_=>(P0_ k_∨w.heap.size≤k_)) v6 x6_3)∧yaa (Below w.heap.size w w'))
        case atStart=>exact⟨(y734),(t721),zF,H',⟨Nat.le_refl _⟩,⟨by (with_reducible repeat (first|apply Kd.V_alloc|apply Kd.V_drewN|apply Kd.V_drew));exact Kd.V_mono HO_0.out (fun _ hk=>⟨hk.1.1,hk.2⟩)⟩,⟨by (with_reducible repeat (first|apply Kd.N_alloc|apply Kd.N_drewN|apply Kd.N_drew));exact HO736.out⟩,⟨zB⟩⟩
        case round =>
         clear H'
         try clear c1
         try clear c2
         try clear p2
         try clear c5
         try clear c5b0
         try clear c6
         try clear c6b0
         try clear p6
         try clear c7
         try clear p7
         try clear q7
         try clear hx7
         try clear c8
         try clear c11
         try clear c11b0
         try clear c12
         try clear c12b0
         try clear c13
         try clear c13b0
         try clear c14
         try clear c17
         try clear hx722_0
         try clear hx727_0
         try clear p2
         try clear p7
         try clear p722
         try clear p727
         try clear q7
         try clear q722
         try clear q727
         obtain⟨x6_3,x8_3,rfl,HA,HK3,HO_0,HO_6,HB⟩:=hrel
         cases gk with
         | zero=>exact absurd HA.out (by simp [yaf.l1])
         | succ k3 =>
          have H:=HA.out
          clear HA
          simp only[yaf.l1] at H
          by_cases c21:x8_3<(l0.length:Int)
          ·rw[if_pos c21] at H
           have c21b0:=decide_eq_true c21
           clear c21
           by_cases c22:0≤x8_3
           ·rw[if_pos c22] at H
            have c22b0:=decide_eq_true c22
            clear c22
            by_cases c23:x6_3.length<5864062014805
            ·rw[if_pos c23] at H
             have LMc23:=yaa.mk c23
             clear c23
             obtain⟨y738,hy738⟩:∃ y_:List (List Int),y_=(x6_3++[ybb l0 x8_3]):=⟨_,rfl⟩
             replace H:(yaf.l1 k3 l0 y738 (wrap64 (x8_3+1)))=some r:=by first|(rw[hy738];with_reducible exact H)|(have H2_:=(Option.bind_some _ _).symm.trans H;rw[hy738];with_reducible exact H2_)|(have H2_:=(Option.bind_some _ _).symm.trans H;with_reducible exact H2_)|with_reducible exact H|(rw[hy738];exact H)|exact H
             have Ny738:=yaa.mk hy738
             clear hy738
             have H':=yaa.mk H
             clear H
             have p737:0≤(x8_3:Int):=of_decide_eq_true zA
             have q737:x8_3<(l0.length:Int):=of_decide_eq_true zA
             obtain⟨ad737,A737_0,c737_0,e737,hx737_0,hl737_0,hi737_0⟩:=yd8 (Kd.V_reads' HO_0.out).2.2 x8_3 p737 q737
             cases e737
             obtain⟨ce737,hce737,hMe737,hcc737⟩:=Kd.V_get HO_0.out [] x8_3 p737 (by first|exact q737|exact of_decide_eq_true zA|(have e_:=(Kd.V_reads' HO_0.out).1;omega))
             obtain⟨ua737_0,uc737_0,rfl,ul737_0,ge737_0⟩:=Kd.FK_slice_open hMe737
             have hv737_0:=hcc737 0 _ rfl
             rw[Nat.add_zero,show((Kd.slice 5 (Kd.int .u8))).sz=1 from rfl,Nat.mul_one] at hv737_0
             replace hv737_0:=Option.some.inj (hv737_0.symm.trans hx737_0)
             injection hv737_0 with hva_ hvn_ hvc_
             rw[hva_] at ge737_0
             rw[hvc_] at ul737_0
             have HL737_0:=yaa.mk (show Kd.V (Kd.int .u8) 5 _ w.heap.size _ _ (ybb l0 x8_3) from Kd.V_mk ul737_0 ge737_0)
             clear hva_ hvn_ hvc_ ge737_0 ul737_0
             clear hcc737 hce737
             have HR737_0:=yaa.mk hi737_0
             have HC737_0:=yaa.mk hl737_0
             clear hi737_0 hl737_0
             replace p737:=eq_true p737
             replace q737:=eq_true q737
             go_wp2_with (first|((with_reducible refine ybe (b:=.append) (xs:=#[.tmp 50,.tmp 55]) rfl ?_);at_builtin;refine Kd.N_append (Kd.slice 5 (Kd.int .u8)) (w0:=w) w.heap.size rfl (.tmp 50) (.tmp 55) 46 25 (.slice none 0 0) 24 rfl Tryz.underlying46 ygm rfl (by decide) (by omega) u6 x6_3 (ybb l0 x8_3) [.slice A737_0 (ybb l0 x8_3).length c737_0] (fun k_=>(P0_ k_∨w.heap.size≤k_)) (fun k_=>((fun k_=>(P0_ k_∨w.heap.size≤k_))) k_∧some k_≠(u6:Value).ownBlock) rfl rfl ?aP (fun _ hk=>hk) ?aF ?aO ?aB ?aS ?aL ?_;(case aP=>exact(Kd.FK_slice_mk (Kd.V_reads' (Kd.V_mono (ok':=(fun k_=>((fun k_=>(P0_ k_∨w.heap.size≤k_))) k_∧some k_≠(u6:Value).ownBlock)) (HL737_0.out) (fun k_ hk=>⟨hk.1,hk.2⟩))).2.1 (Kd.V_F (Kd.V_mono (ok':=(fun k_=>((fun k_=>(P0_ k_∨w.heap.size≤k_))) k_∧some k_≠(u6:Value).ownBlock)) (HL737_0.out) (fun k_ hk=>⟨hk.1,hk.2⟩)))));(case aB=>exact zB);(case aF=>exact(fun k_ hk=>(.inr (Nat.le_trans (yac zB) hk))));(case aO=>exact(by (with_reducible repeat (first|apply Kd.N_alloc|apply Kd.N_drewN|apply Kd.N_drew));exact HO_6.out));(case aS=>exact(yac zB));(case aL=>have:=LMc23.out;omega);intro v739 w24 ho hb hg hat;rw[← Ny738.out] at ho;have n0_:=yaa.mk (Kd.V_afterv (ok:=(fun k_=>(P0_ k_∨w.heap.size≤k_))) (by (with_reducible repeat (first|apply Kd.V_alloc|apply Kd.V_drewN|apply Kd.V_drew));exact HO_0.out) hg hat);have n1_:=yaa.mk (Kd.V_afterv (ok:=(fun k_=>(P0_ k_∨w.heap.size≤k_))) (by (with_reducible repeat (first|apply Kd.V_alloc|apply Kd.V_drewN|apply Kd.V_drew));exact HL737_0.out) hg hat);have n2_:=yaa.mk (hb);have n3_:=yaa.mk (ho);clear HO_0;clear HL737_0;clear HB;clear HO_6;have HO_0:=n0_;have HL737_0:=n1_;have HB:=n2_;have HO740:=n3_;clear n0_ n1_ n2_ n3_;clear ho hb hg hat))
             go_roundg k3
             case measure=>have:=HJ3.out;have:=HK2.out;have:=HK3.out;omega
             case rel=>exact⟨(y738),(wrap64 (x8_3+1)),zF,H',⟨by have:=HJ3.out;have:=HK2.out;have:=HK3.out;omega⟩,⟨by (with_reducible repeat (first|apply Kd.V_alloc|apply Kd.V_drewN|apply Kd.V_drew));exact HO_0.out⟩,⟨by (with_reducible repeat (first|apply Kd.N_alloc|apply Kd.N_drewN|apply Kd.N_drew));exact HO740.out⟩,⟨zB⟩⟩
            ·rw[if_neg c23] at H
             exact absurd H (by simp)
           ·rw[if_neg c22] at H
            exact absurd H (by simp)
          ·rw[if_neg c21] at H
           have c21b0:=decide_eq_false c21
           clear c21
           obtain rfl:=Option.some.inj H
           go_wp2
           go_ret
           exact⟨_,zG,Kd.N_V (by (with_reducible repeat (first|apply Kd.N_alloc|apply Kd.N_drewN|apply Kd.N_drew));exact HO_6.out),zB⟩
       ·rw[if_neg c17] at H
        exact absurd H (by simp)
mutual
def yap.l0:Nat→List (List Int)→List (List Int)→Int→Option ((List (List Int))×List Int×Int)
 | 0,_,_,_=>none
 | k+1,x0,x5,x6=>if x6<(x0.length:Int) then (if 0≤x6 then (if ((ybb x0 x6).length:Int) > 200 then (some (([]:List (List Int)),([]:List Int),4)) else ((yaf.f k x5 (ybb x0 x6)).bind fun t746=>(yap.l0 k x0 t746 (wrap64 (x6+1))))) else (none)) else (yap.l1 k x0 x5 (([]:List Int)) 0)
def yap.l1:Nat→List (List Int)→List (List Int)→List Int→Int→Option ((List (List Int))×List Int×Int)
 | 0,_,_,_,_=>none
 | k+1,x0,x5,x7,x8=>if x8<(x0.length:Int) then (if 0≤x8 then ((yau.f k x5 (ybb x0 x8)).bind fun t753=>(if x7.length<17592186044416 then (yap.l1 k x0 x5 (x7++[t753]) (wrap64 (x8+1))) else (none))) else (none)) else (some (x5,x7,0))
end
def yap.f (k:Nat) (l0:List (List Int)):Option ((List (List Int))×List Int×Int):=if (l0.length:Int) > 4096 then (some (([]:List (List Int)),([]:List Int),4)) else (yap.l0 k l0 (([]:List (List Int))) 0)
theorem yap.mono_l:∀ k,(∀ y0 y1 y2,LeO (yap.l0 k y0 y1 y2) (yap.l0 (k+1) y0 y1 y2))∧(∀ y0 y1 y2 y3,LeO (yap.l1 k y0 y1 y2 y3) (yap.l1 (k+1) y0 y1 y2 y3))
 | 0=>⟨fun _ _ _ r h=>by simp [yap.l0] at h,fun _ _ _ _ r h=>by simp [yap.l1] at h⟩
 | k+1=>by
  obtain⟨ih0,ih1⟩:=yap.mono_l k
  refine⟨?_,?_⟩
  ·intro y0 y1 y2
   unfold yap.l0
   repeat' first
   | (with_reducible exact ih0 _ _ _)
   | (with_reducible exact ih1 _ _ _ _)
   | (with_reducible exact yau.mono _ _ _)
   | (with_reducible exact yaf.mono _ _ _)
   | (with_reducible exact LeO.refl _)
   | (with_reducible exact LeO.none _)
   | (with_reducible refine LeO.ite ?_ ?_)
   | (with_reducible refine LeO.bind ?_ (fun _=>?_))
  ·intro y0 y1 y2 y3
   unfold yap.l1
   repeat' first
   | (with_reducible exact ih0 _ _ _)
   | (with_reducible exact ih1 _ _ _ _)
   | (with_reducible exact yau.mono _ _ _)
   | (with_reducible exact yaf.mono _ _ _)
   | (with_reducible exact LeO.refl _)
   | (with_reducible exact LeO.none _)
   | (with_reducible refine LeO.ite ?_ ?_)
   | (with_reducible refine LeO.bind ?_ (fun _=>?_))
theorem yap.mono:∀ a0 k,LeO (yap.f k a0) (yap.f (k+1) a0):=by
 intro a0 k
 obtain⟨ih0,ih1⟩:=yap.mono_l k
 unfold yap.f
 repeat' first
   | (with_reducible exact ih0 _ _ _)
   | (with_reducible exact ih1 _ _ _ _)
   | (with_reducible exact yau.mono _ _ _)
   | (with_reducible exact yaf.mono _ _ _)
   | (with_reducible exact LeO.refl _)
   | (with_reducible exact LeO.none _)
   | (with_reducible refine LeO.ite ?_ ?_)
   | (with_reducible refine LeO.bind ?_ (fun _=>?_))
theorem yap.calls (k:Nat) (A0:Option Addr) (c0:Nat) (l0:List (List Int)) (r1:List (List Int)) (r2:List Int) (r3:Int) (w:World) (hr0:Kd.C (Kd.slice 5 (Kd.int .u8)) w A0 l0.length l0) (hc0:l0.length≤c0) (h:yap.f k l0=some (r1,r2,r3)) :
  Calls Tryz.prog 132 #[.slice A0 l0.length c0] w fun e w'=>∃ v0_ v1_:Value,e=.returned (.tuple #[v0_,v1_,.int .i64 r3])∧Kd.V (Kd.slice 5 (Kd.int .u8)) 25 w' w.heap.size (fun k_=>(w.heap.size≤k_)∧some k_≠(v1_:Value).ownBlock) v0_ r1∧Kd.R (Kd.int .i64) 3 w' w.heap.size (fun k_=>(w.heap.size≤k_)) v1_ r2∧Below w.heap.size w w':=by
 have HR0:=yaa.mk hr0
 have HC0:=yaa.mk hc0
 clear hr0 hc0
 have HB:=yaa.mk (Below.refl w.heap.size w)
 have H:(if (l0.length:Int) > 4096 then (some (([]:List (List Int)),([]:List Int),4)) else (yap.l0 k l0 (([]:List (List Int))) 0))=some (r1,r2,r3):=h
 clear h
 by_cases c2:(l0.length:Int) > 4096
 ·rw[if_pos c2] at H
  have c2b0:decide (4096<(l0.length:Int))=true:=decide_eq_true c2
  have c2b1:decide (4096<l0.length)=true:=decide_eq_true (by omega)
  clear c2
  simp only[Option.some.injEq,Prod.mk.injEq] at H
  obtain⟨rfl,rfl,rfl⟩:=H
  go_enter Tryz.func132,Tryz.ntmps132
  go_wp2
  go_ret3
  exact⟨.slice none 0 0,.slice none 0 0,zG,Kd.S_V (by first|exact Kd.S_nil _ _ _ 0 _|exact Kd.N_nil _ _ _ _ _|exact Kd.V_nil _ _ _ _ _|exact Kd.Q_nil _ _ _ _ _|exact Kd.R_nil _ _ _ _ _),zN,zB⟩
 ·rw[if_neg c2] at H
  have c2b0:decide (4096<(l0.length:Int))=false:=decide_eq_false c2
  have c2b1:decide (4096<l0.length)=false:=decide_eq_false (by omega)
  clear c2
  obtain⟨y741,hy741⟩:∃ y_:List (List Int),y_=(([]:List (List Int))):=⟨_,rfl⟩
  replace H:(yap.l0 k l0 y741 0)=some (r1,r2,r3):=by first|(rw[hy741];with_reducible exact H)|(have H2_:=(Option.bind_some _ _).symm.trans H;rw[hy741];with_reducible exact H2_)|(have H2_:=(Option.bind_some _ _).symm.trans H;with_reducible exact H2_)|with_reducible exact H|(rw[hy741];exact H)|exact H
  have Ny741:=yaa.mk hy741
  clear hy741
  have H':=yaa.mk H
  clear H
  go_enter Tryz.func132,Tryz.ntmps132
  go_wp2_with (first|((with_reducible refine yb1 (N:=12) rfl ?_);refine Kd.S_lit (Kd.slice 5 (Kd.int .u8)) _ 25 ?hg (N:=12) ?hd (xs:=([]:List (List Int))) (inner:=[]) (ok:=fun _=>True) (okp:=fun _=>True) ?hr ?hp (fun _ hk=>hk) trivial (Below.refl _ _) (Nat.le_refl _) (by simp) ?_;(case hd=>rfl);(case hg=>rfl);(case hr=>first|(go_simp;done)|(go_simp;rfl));(case hp=>exact(Reps.none _ _));intro v742 w3 ho4 hb hg_ hnew_;clear hg_ hnew_;(first|rw[← Ny741.out] at ho4|(simp only[Int.reduceToNat] at ho4;rw[← Ny741.out] at ho4));have n0_:=yaa.mk (Kd.S_lower (Kd.S_newM (M:=fun k_=>(w.heap.size≤k_)) ho4 (yac zB) (fun k_ h_=>h_)) (yac zB));have n1_:=yaa.mk (yai zB hb);clear HB;have HO743:=n0_;have HB:=n1_;clear n0_ n1_;clear hb ho4))
  go_loopg [5,6] k (fun kq v5 v6 w'=>∃ (x5_1:List (List Int)) (x6_1:Int),v6=.int .i64 x6_1∧yaa (yap.l0 kq l0 x5_1 x6_1=some (r1,r2,r3))∧yaa (kq≤k)∧yaa (Kd.V (Kd.slice 5 (Kd.int .u8)) 25 w' w.heap.size (fun k_=>(w.heap.size≤k_)) v5 x5_1)∧yaa (Below w.heap.size w w'))
  case atStart=>exact⟨(y741),(0),zF,H',⟨Nat.le_refl _⟩,⟨Kd.S_V (by (with_reducible repeat (first|apply Kd.S_alloc|apply Kd.S_drewN|apply Kd.S_drew));exact Kd.S_mono HO743.out (fun _ hk=>hk.1))⟩,⟨zB⟩⟩
  case round =>
   clear H'
   try clear c1
   try clear c2
   try clear c2b0
   try clear c2b1
   try clear p2
   obtain⟨x5_1,x6_1,rfl,HA,HK1,HO_5,HB⟩:=hrel
   cases gk with
   | zero=>exact absurd HA.out (by simp [yap.l0])
   | succ k1 =>
    have H:=HA.out
    clear HA
    simp only[yap.l0] at H
    by_cases c5:x6_1<(l0.length:Int)
    ·rw[if_pos c5] at H
     have c5b0:=decide_eq_true c5
     clear c5
     by_cases c6:0≤x6_1
     ·rw[if_pos c6] at H
      have c6b0:=decide_eq_true c6
      clear c6
      by_cases c7:((ybb l0 x6_1).length:Int) > 200
      ·rw[if_pos c7] at H
       have c7b0:decide (200<((ybb l0 x6_1).length:Int))=true:=decide_eq_true c7
       have c7b1:decide (200<(ybb l0 x6_1).length)=true:=decide_eq_true (by omega)
       clear c7
       simp only[Option.some.injEq,Prod.mk.injEq] at H
       obtain⟨rfl,rfl,rfl⟩:=H
       have p744:0≤(x6_1:Int):=of_decide_eq_true zA
       have q744:x6_1<(l0.length:Int):=of_decide_eq_true zA
       obtain⟨ad744,A744_0,c744_0,e744,hx744_0,hl744_0,hi744_0⟩:=yd8 HR0.out x6_1 p744 q744
       cases e744
       replace hx744_0:=(HB.out.cell (World.block_lt_of_cell? w _ hx744_0)).trans hx744_0
       have HR744_0:=yaa.mk hi744_0
       have HC744_0:=yaa.mk hl744_0
       clear hi744_0 hl744_0
       replace p744:=eq_true p744
       replace q744:=eq_true q744
       go_wp2
       go_ret3
       exact⟨.slice none 0 0,.slice none 0 0,zG,Kd.S_V (by first|exact Kd.S_nil _ _ _ 0 _|exact Kd.N_nil _ _ _ _ _|exact Kd.V_nil _ _ _ _ _|exact Kd.Q_nil _ _ _ _ _|exact Kd.R_nil _ _ _ _ _),zN,zB⟩
      ·rw[if_neg c7] at H
       have c7b0:decide (200<((ybb l0 x6_1).length:Int))=false:=decide_eq_false c7
       have c7b1:decide (200<(ybb l0 x6_1).length)=false:=decide_eq_false (by omega)
       clear c7
       replace H:=Option.bind_eq_some_iff.mp H
       obtain⟨t746,A80,H⟩:=H
       try dsimp only at H
       have A8:=yaa.mk A80
       clear A80
       have H':=yaa.mk H
       clear H
       have p744:0≤(x6_1:Int):=of_decide_eq_true zA
       have q744:x6_1<(l0.length:Int):=of_decide_eq_true zA
       obtain⟨ad744,A744_0,c744_0,e744,hx744_0,hl744_0,hi744_0⟩:=yd8 HR0.out x6_1 p744 q744
       cases e744
       replace hx744_0:=(HB.out.cell (World.block_lt_of_cell? w _ hx744_0)).trans hx744_0
       have HR744_0:=yaa.mk hi744_0
       have HC744_0:=yaa.mk hl744_0
       clear hi744_0 hl744_0
       replace p744:=eq_true p744
       replace q744:=eq_true q744
       have p745:0≤(x6_1:Int):=of_decide_eq_true zA
       have q745:x6_1<(l0.length:Int):=of_decide_eq_true zA
       obtain⟨ad745,A745_0,c745_0,e745,hx745_0,hl745_0,hi745_0⟩:=yd8 HR0.out x6_1 p745 q745
       obtain rfl:ad744=ad745:=(by injection e745)
       replace hx745_0:=(HB.out.cell (World.block_lt_of_cell? w _ hx745_0)).trans hx745_0
       have HR745_0:=yaa.mk hi745_0
       have HC745_0:=yaa.mk hl745_0
       clear hi745_0 hl745_0
       replace p745:=eq_true p745
       replace q745:=eq_true q745
       have ea_:=Option.some.inj (hx744_0.symm.trans hx745_0)
       injection ea_ with ea_ en_ ec_
       subst ea_
       subst ec_
       clear en_
       obtain⟨Ao9,co9,eo9⟩:=Kd.V_slice HO_5.out
       subst eo9
       go_wp2_with (first|((with_reducible refine yah (f:=142) rfl ?_);refine ya6 (some 30) rfl rfl Tryz.func142 (by kernel_rfl) rfl #[.slice Ao9 x5_1.length co9,.slice A744_0 (ybb l0 x6_1).length c744_0] rfl zE ?_;(with_reducible refine(yaf.calls k1 (fun k_=>(w.heap.size≤k_)) _ _ x5_1 _ _ (ybb l0 x6_1) t746 _ ?side1 ?side2 ?side3 A8.out).mono ?_);(case side1=>exact HO_5.out);(case side2=>exact zC (Kd.C_below HR745_0.out HB.out));(case side3=>exact HC745_0.out);rintro e w10 ⟨v747,rfl,ho0,hb⟩;refine⟨_,rfl,?_⟩;have n0_:=yaa.mk (Kd.V_below (by (with_reducible repeat (first|apply Kd.V_alloc|apply Kd.V_drewN|apply Kd.V_drew));exact HO_5.out) hb);have n1_:=yaa.mk (Kd.V_lower (Kd.V_mono (ok':=fun k_=>(w.heap.size≤k_)) ho0 (fun k_ hk_=>Or.elim hk_ (fun hs_=>hs_) (fun hn_=>(Nat.le_trans (yac zB) hn_)))) (yac zB));have n2_:=yaa.mk (yai zB hb);clear HO_5;clear HB;have HO_5:=n0_;have HO748:=n1_;have HB:=n2_;clear n0_ n1_ n2_;(try clear hb);(try clear hb2);(try clear hk);(try clear hi);(try clear ho0)))
       go_roundg k1
       case measure=>have:=HK1.out;omega
       case rel=>exact⟨(t746),(wrap64 (x6_1+1)),zF,H',⟨by have:=HK1.out;omega⟩,⟨by (with_reducible repeat (first|apply Kd.V_alloc|apply Kd.V_drewN|apply Kd.V_drew));exact HO748.out⟩,⟨zB⟩⟩
     ·rw[if_neg c6] at H
      exact absurd H (by simp)
    ·rw[if_neg c5] at H
     have c5b0:=decide_eq_false c5
     clear c5
     obtain⟨y749,hy749⟩:∃ y_:List Int,y_=(([]:List Int)):=⟨_,rfl⟩
     replace H:(yap.l1 k1 l0 x5_1 y749 0)=some (r1,r2,r3):=by first|(rw[hy749];with_reducible exact H)|(have H2_:=(Option.bind_some _ _).symm.trans H;rw[hy749];with_reducible exact H2_)|(have H2_:=(Option.bind_some _ _).symm.trans H;with_reducible exact H2_)|with_reducible exact H|(rw[hy749];exact H)|exact H
     have Ny749:=yaa.mk hy749
     clear hy749
     have H':=yaa.mk H
     clear H
     go_wp2_with (first|((with_reducible refine yb1 (N:=31) rfl ?_);refine Kd.R_lit (Kd.int .i64) _ 3 ?hg (N:=31) ?hd (xs:=([]:List Int)) (inner:=[]) (ok:=fun _=>True) (okp:=fun _=>True) ?hr ?hp (fun _ hk=>hk) trivial (Below.refl _ _) (Nat.le_refl _) (by simp) ?_;(case hd=>rfl);(case hg=>rfl);(case hr=>first|(go_simp;done)|(go_simp;rfl));(case hp=>exact(Reps.none _ _));intro v750 w11 ho12 hb hg_ hnew_;clear hg_ hnew_;(first|rw[← Ny749.out] at ho12|(simp only[Int.reduceToNat] at ho12;rw[← Ny749.out] at ho12));have n0_:=yaa.mk (Kd.V_elder' (by (with_reducible repeat (first|apply Kd.V_alloc|apply Kd.V_drewN|apply Kd.V_drew));exact HO_5.out) (Kd.R_base ho12) hb);have n1_:=yaa.mk (Kd.R_lower (Kd.R_newM (M:=fun k_=>(w.heap.size≤k_)) ho12 (yac zB) (fun k_ h_=>h_)) (yac zB));have n2_:=yaa.mk (yai zB hb);clear HO_5;clear HB;have HO_5:=n0_;have HO751:=n1_;have HB:=n2_;clear n0_ n1_ n2_;clear hb ho12))
     go_loopg [7,8] k1 (fun kq v7 v8 w'=>∃ (x7_2:List Int) (x8_2:Int),v8=.int .i64 x8_2∧yaa (yap.l1 kq l0 x5_1 x7_2 x8_2=some (r1,r2,r3))∧yaa (kq≤k1)∧yaa (Kd.V (Kd.slice 5 (Kd.int .u8)) 25 w' w.heap.size (fun k_=>(w.heap.size≤k_)∧some k_≠(v7:Value).ownBlock) u5 x5_1)∧yaa (Kd.R (Kd.int .i64) 3 w' w.heap.size (fun k_=>(w.heap.size≤k_)) v7 x7_2)∧yaa (Below w.heap.size w w'))
     case atStart=>exact⟨(y749),(0),zF,H',⟨Nat.le_refl _⟩,⟨by (with_reducible repeat (first|apply Kd.V_alloc|apply Kd.V_drewN|apply Kd.V_drew));exact HO_5.out⟩,⟨by (with_reducible repeat (first|apply Kd.R_alloc|apply Kd.R_drewN|apply Kd.R_drew));exact Kd.R_mono HO751.out (fun _ hk=>hk.1)⟩,⟨zB⟩⟩
     case round =>
      clear H'
      try clear c1
      try clear c2
      try clear c2b0
      try clear c2b1
      try clear p2
      try clear c5
      try clear c5b0
      try clear c6
      try clear c6b0
      try clear p6
      try clear c7
      try clear c7b0
      try clear c7b1
      try clear p7
      try clear q7
      try clear hx7
      try clear hx744_0
      try clear hx745_0
      try clear p2
      try clear p744
      try clear p745
      try clear q744
      try clear q745
      obtain⟨x7_2,x8_2,rfl,HA,HK2,HO_5,HO_7,HB⟩:=hrel
      cases gk with
      | zero=>exact absurd HA.out (by simp [yap.l1])
      | succ k2 =>
       have H:=HA.out
       clear HA
       simp only[yap.l1] at H
       by_cases c13:x8_2<(l0.length:Int)
       ·rw[if_pos c13] at H
        have c13b0:=decide_eq_true c13
        clear c13
        by_cases c14:0≤x8_2
        ·rw[if_pos c14] at H
         have c14b0:=decide_eq_true c14
         clear c14
         replace H:=Option.bind_eq_some_iff.mp H
         obtain⟨t753,A150,H⟩:=H
         try dsimp only at H
         have A15:=yaa.mk A150
         clear A150
         by_cases c16:x7_2.length<17592186044416
         ·rw[if_pos c16] at H
          have LMc16:=yaa.mk c16
          clear c16
          obtain⟨y754,hy754⟩:∃ y_:List Int,y_=(x7_2++[t753]):=⟨_,rfl⟩
          replace H:(yap.l1 k2 l0 x5_1 y754 (wrap64 (x8_2+1)))=some (r1,r2,r3):=by first|(rw[hy754];with_reducible exact H)|(have H2_:=(Option.bind_some _ _).symm.trans H;rw[hy754];with_reducible exact H2_)|(have H2_:=(Option.bind_some _ _).symm.trans H;with_reducible exact H2_)|with_reducible exact H|(rw[hy754];exact H)|exact H
          have Ny754:=yaa.mk hy754
          clear hy754
          have H':=yaa.mk H
          clear H
          have p752:0≤(x8_2:Int):=of_decide_eq_true zA
          have q752:x8_2<(l0.length:Int):=of_decide_eq_true zA
          obtain⟨ad752,A752_0,c752_0,e752,hx752_0,hl752_0,hi752_0⟩:=yd8 HR0.out x8_2 p752 q752
          cases e752
          replace hx752_0:=(HB.out.cell (World.block_lt_of_cell? w _ hx752_0)).trans hx752_0
          have HR752_0:=yaa.mk hi752_0
          have HC752_0:=yaa.mk hl752_0
          clear hi752_0 hl752_0
          replace p752:=eq_true p752
          replace q752:=eq_true q752
          obtain⟨Ao17,co17,eo17⟩:=Kd.V_slice HO_5.out
          subst eo17
          go_wp2_with (first|((with_reducible refine yah (f:=143) rfl ?_);refine ya6 (some 44) rfl rfl Tryz.func143 (by kernel_rfl) rfl #[.slice Ao17 x5_1.length co17,.slice A752_0 (ybb l0 x8_2).length c752_0] rfl zE ?_;(with_reducible refine(yau.calls k2 _ _ x5_1 _ _ (ybb l0 x8_2) t753 _ ?side1 ?side2 ?side3 ?side4 A15.out).mono ?_);(case side1=>exact zC (Kd.V_reads' HO_5.out).2.2);(case side2=>exact(Kd.V_reads' HO_5.out).2.1);(case side3=>exact zC (Kd.C_below HR752_0.out HB.out));(case side4=>exact HC752_0.out);rintro e w' ⟨rfl,⟨nd,rfl⟩⟩;refine⟨_,rfl,?_⟩)|((with_reducible refine ybe (b:=.append) (xs:=#[.tmp 38,.tmp 45]) rfl ?_);at_builtin;refine Kd.R_append (Kd.int .i64) (w0:=w) w.heap.size rfl (.tmp 38) (.tmp 45) 152 3 (.int .i64 0) 8 rfl Tryz.underlying152 info3 rfl (by decide) (by omega) u7 x7_2 t753 [.int .i64 t753] (fun k_=>(w.heap.size≤k_)) (fun _=>False) rfl rfl ?aP (fun _ hk=>hk.elim) ?aF ?aO ?aB ?aS ?aL ?_;(case aP=>exact rfl);(case aB=>exact zB);(case aF=>exact(fun k_ hk=>(Nat.le_trans (yac zB) hk)));(case aO=>exact(zR HO_7.out));(case aS=>exact(yac zB));(case aL=>have:=LMc16.out;omega);intro v755 w18 ho hb hg hat;rw[← Ny754.out] at ho;have n0_:=yaa.mk (Kd.V_afterv (ok:=(fun k_=>(w.heap.size≤k_))) (by (with_reducible repeat (first|apply Kd.V_alloc|apply Kd.V_drewN|apply Kd.V_drew));exact HO_5.out) hg hat);have n1_:=yaa.mk (hb);have n2_:=yaa.mk (ho);clear HO_5;clear HB;clear HO_7;have HO_5:=n0_;have HB:=n1_;have HO756:=n2_;clear n0_ n1_ n2_;clear ho hb hg hat))
          go_roundg k2
          case measure=>have:=HK1.out;have:=HK2.out;omega
          case rel=>exact⟨(y754),(wrap64 (x8_2+1)),zF,H',⟨by have:=HK1.out;have:=HK2.out;omega⟩,⟨by (with_reducible repeat (first|apply Kd.V_alloc|apply Kd.V_drewN|apply Kd.V_drew));exact HO_5.out⟩,⟨zR HO756.out⟩,⟨zB⟩⟩
         ·rw[if_neg c16] at H
          exact absurd H (by simp)
        ·rw[if_neg c14] at H
         exact absurd H (by simp)
       ·rw[if_neg c13] at H
        have c13b0:=decide_eq_false c13
        clear c13
        simp only[Option.some.injEq,Prod.mk.injEq] at H
        obtain⟨rfl,rfl,rfl⟩:=H
        go_wp2
        go_ret3
        exact⟨_,_,zG,by (with_reducible repeat (first|apply Kd.V_alloc|apply Kd.V_drewN|apply Kd.V_drew));exact HO_5.out,zR HO_7.out,zB⟩
end Go.Proofs.YteeikgjjgfdjgaaGreat.PK
end
