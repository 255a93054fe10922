/-
  Parts of the proof: E3.
-/
import Derived.Test.YteeikgjjgfdjgaaGreatV5
set_option maxHeartbeats 8000000
set_option maxRecDepth 100000
section
namespace Go.Proofs.YteeikgjjgfdjgaaGreat.PK
open Go.RowKit YteeikgjjgfdjgaaGreatW.PrintWords YteeikgjjgfdjgaaGreatW.PrintLast YteeikgjjgfdjgaaGreatW.PrintMore
attribute [local go_sem] yce ycf ycu ycv yb8 yb7 ycm yco
set_option linter.unusedVariables false
set_option linter.unusedSimpArgs false
def ybl.l0:Nat→List Int→List (S150)→List Int→Int→Int→Option ((List (S150))×Int)
 | 0,_,_,_,_,_=>none
 | k+1,x0,x4,x10,x11,x12=>if x12<x11 then (if 0≤x12 then (if x12<(x10.length:Int) then (if x12=0 then (if x4.length<8796093022208 then ((some (x4++[(⟨rd x10 x12,0⟩:S150)]:List (S150))).bind fun y151=>(if 0≤(wrap64 ((y151.length:Int)-1)) then (if (wrap64 ((y151.length:Int)-1))<(y151.length:Int) then (ybl.l0 k x0 (y151.set ((wrap64 ((y151.length:Int)-1)):Int).toNat (⟨(yat y151 (wrap64 ((y151.length:Int)-1))).f0,wrap64 (((yat y151 (wrap64 ((y151.length:Int)-1))).f1)+1)⟩:S150)) x10 x11 (wrap64 (x12+1))) else (none)) else (none))) else (none)) else (if 0≤(wrap64 (x12-1)) then (if (wrap64 (x12-1))<(x0.length:Int) then (if (rd x10 x12)=(rd x0 (wrap64 (x12-1))) then (if 0≤(wrap64 ((x4.length:Int)-1)) then (if (wrap64 ((x4.length:Int)-1))<(x4.length:Int) then (ybl.l0 k x0 (x4.set ((wrap64 ((x4.length:Int)-1)):Int).toNat (⟨(yat x4 (wrap64 ((x4.length:Int)-1))).f0,wrap64 (((yat x4 (wrap64 ((x4.length:Int)-1))).f1)+1)⟩:S150)) x10 x11 (wrap64 (x12+1))) else (none)) else (none)) else (if x4.length<8796093022208 then ((some (x4++[(⟨rd x10 x12,0⟩:S150)]:List (S150))).bind fun y159=>(if 0≤(wrap64 ((y159.length:Int)-1)) then (if (wrap64 ((y159.length:Int)-1))<(y159.length:Int) then (ybl.l0 k x0 (y159.set ((wrap64 ((y159.length:Int)-1)):Int).toNat (⟨(yat y159 (wrap64 ((y159.length:Int)-1))).f0,wrap64 (((yat y159 (wrap64 ((y159.length:Int)-1))).f1)+1)⟩:S150)) x10 x11 (wrap64 (x12+1))) else (none)) else (none))) else (none))) else (none)) else (none))) else (none)) else (none)) else (some (x4,0))
def ybl.f (k:Nat) (l0:List Int):Option ((List (S150))×Int):=if (l0.length:Int) > 4096 then (some (([]:List (S150)),4)) else (ybl.l0 k l0 ([]:List (S150)) l0 (l0.length:Int) 0)
theorem ybl.calls (k:Nat) (A0:Option Addr) (c0:Nat) (l0:List Int) (r1:List (S150)) (r2:Int) (w:World) (hr0:Kd.C (Kd.int .i64) w A0 l0.length l0) (hc0:l0.length≤c0) (h:ybl.f k l0=some (r1,r2)) :
  Calls Tryz.prog 124 #[.slice A0 l0.length c0] w fun e w'=>∃ v0_:Value,e=.returned (.tuple #[v0_,.int .i64 r2])∧Kd.R k150 150 w' w.heap.size (fun _=>True) v0_ r1∧Below w.heap.size w w':=by
 have hu150:=Tryz.underlying150
 have HR0:=yaa.mk hr0
 have HC0:=yaa.mk hc0
 clear hr0 hc0
 have HB:=yaa.mk (Below.refl w.heap.size w)
 have H:(if (l0.length:Int) > 4096 then (some (([]:List (S150)),4)) else (ybl.l0 k l0 ([]:List (S150)) l0 (l0.length:Int) 0))=some (r1,r2):=h
 clear h
 by_cases c2:(l0.length:Int) > 4096
 ·rw[if_pos c2] at H
  have c2b0:decide (4096<(l0.length:Int))=true:=decide_eq_true c2
  have c2b1:decide (4096<l0.length)=true:=decide_eq_true (by omega)
  clear c2
  simp only[Option.some.injEq,Prod.mk.injEq] at H
  obtain⟨rfl,rfl⟩:=H
  go_enter Tryz.func124,Tryz.ntmps124
  go_wp2
  go_ret2
  exact⟨_,zG,zN,zB⟩
 ·rw[if_neg c2] at H
  have c2b0:decide (4096<(l0.length:Int))=false:=decide_eq_false c2
  have c2b1:decide (4096<l0.length)=false:=decide_eq_false (by omega)
  clear c2
  have H':=yaa.mk H
  clear H
  go_enter Tryz.func124,Tryz.ntmps124
  go_wp2
  go_loopg [4,12] k (fun kq v4 v12 w'=>∃ (x4_1:List (S150)) (x12_1:Int),v12=.int .i64 x12_1∧yaa (ybl.l0 kq l0 x4_1 l0 (l0.length:Int) x12_1=some (r1,r2))∧yaa (kq≤k)∧yaa (Kd.R k150 150 w' w.heap.size (fun _=>True) v4 x4_1)∧yaa (Below w.heap.size w w'))
  case atStart=>exact⟨(([]:List (S150))),(0),zF,H',⟨Nat.le_refl _⟩,⟨zN⟩,⟨zB⟩⟩
  case round =>
   clear H'
   try clear c1
   try clear c2
   try clear c2b0
   try clear c2b1
   try clear p2
   obtain⟨x4_1,x12_1,rfl,HA,HK1,HO_4,HB⟩:=hrel
   cases gk with
   | zero=>exact absurd HA.out (by simp [ybl.l0])
   | succ k1 =>
    have H:=HA.out
    clear HA
    simp only[ybl.l0] at H
    by_cases c3:x12_1<(l0.length:Int)
    ·rw[if_pos c3] at H
     have c3b0:=decide_eq_true c3
     clear c3
     by_cases c4:0≤x12_1
     ·rw[if_pos c4] at H
      have c4b0:=decide_eq_true c4
      clear c4
      by_cases c5:x12_1<(l0.length:Int)
      ·rw[if_pos c5] at H
       have c5b0:=decide_eq_true c5
       clear c5
       by_cases c6:x12_1=0
       ·rw[if_pos c6] at H
        have c6b0:(x12_1 == 0)=true:=beq_iff_eq.mpr c6
        have c6b1:(x12_1 != 0)=false:=bne_eq_false_iff_eq.mpr c6
        clear c6
        by_cases c7:x4_1.length<8796093022208
        ·rw[if_pos c7] at H
         have LMc7:=yaa.mk c7
         clear c7
         obtain⟨y151,hy151⟩:∃ y_:List (S150),y_=(x4_1++[(⟨rd l0 x12_1,0⟩:S150)]):=⟨_,rfl⟩
         replace H:(if 0≤(wrap64 ((y151.length:Int)-1)) then (if (wrap64 ((y151.length:Int)-1))<(y151.length:Int) then (ybl.l0 k1 l0 (y151.set ((wrap64 ((y151.length:Int)-1)):Int).toNat (⟨(yat y151 (wrap64 ((y151.length:Int)-1))).f0,wrap64 (((yat y151 (wrap64 ((y151.length:Int)-1))).f1)+1)⟩:S150)) l0 (l0.length:Int) (wrap64 (x12_1+1))) else (none)) else (none))=some (r1,r2):=by first|(rw[hy151];with_reducible exact H)|(have H2_:=(Option.bind_some _ _).symm.trans H;rw[hy151];with_reducible exact H2_)|(have H2_:=(Option.bind_some _ _).symm.trans H;with_reducible exact H2_)|with_reducible exact H|(rw[hy151];exact H)|exact H
         have Ny151:=yaa.mk hy151
         clear hy151
         obtain⟨ji8,hji8⟩:∃ j_:Int,(wrap64 ((y151.length:Int)-1))=j_:=⟨_,rfl⟩
         replace H:(if 0≤(ji8) then (if (ji8)<(y151.length:Int) then (ybl.l0 k1 l0 (y151.set ((ji8):Int).toNat (⟨(yat y151 (ji8)).f0,wrap64 (((yat y151 (ji8)).f1)+1)⟩:S150)) l0 (l0.length:Int) (wrap64 (x12_1+1))) else (none)) else (none))=some (r1,r2):=by first|(rw[hji8] at H;exact H)|(simp only[hji8] at H ⊢;exact H)
         have hji8w:(IntKind.i64.wrap ((y151.length:Int)-1))=ji8:=(ybz _).trans hji8
         by_cases c9:0≤(ji8)
         ·rw[if_pos c9] at H
          have c9b0:=decide_eq_true c9
          clear c9
          by_cases c10:(ji8)<(y151.length:Int)
          ·rw[if_pos c10] at H
           have c10b0:=decide_eq_true c10
           clear c10
           obtain⟨y155,hy155⟩:∃ y_:List (S150),y_=(y151.set ((ji8):Int).toNat (⟨(yat y151 (ji8)).f0,wrap64 (((yat y151 (ji8)).f1)+1)⟩:S150)):=⟨_,rfl⟩
           replace H:(ybl.l0 k1 l0 y155 l0 (l0.length:Int) (wrap64 (x12_1+1)))=some (r1,r2):=by first|(rw[hy155];with_reducible exact H)|(have H2_:=(Option.bind_some _ _).symm.trans H;rw[hy155];with_reducible exact H2_)|(have H2_:=(Option.bind_some _ _).symm.trans H;with_reducible exact H2_)|with_reducible exact H|(rw[hy155];exact H)|exact H
           have Ny155:=yaa.mk hy155
           clear hy155
           have H':=yaa.mk H
           clear H
           have p150:0≤(x12_1:Int):=of_decide_eq_true zA
           have q150:x12_1<(l0.length:Int):=of_decide_eq_true zA
           obtain⟨ad150,e150,hx150_0⟩:=Kd.at_int HR0.out x12_1 p150 q150
           cases e150
           replace hx150_0:=(HB.out.cell (World.block_lt_of_cell? w _ hx150_0)).trans hx150_0
           replace p150:=eq_true p150
           replace q150:=eq_true q150
           go_wp2_with (first|((with_reducible refine ybm (b:=.append) (xs:=#[.tmp 28,.tmp 31]) rfl ?_);at_builtin;refine Kd.R_append k150 (w0:=w) w.heap.size rfl (.tmp 28) (.tmp 31) 146 150 (.agg #[(.int .i64 0),(.int .i64 0)]) 16 rfl Tryz.underlying146 info150 rfl (by decide) (by omega) u4 x4_1 (⟨rd l0 x12_1,0⟩:S150) [.int .i64 (rd l0 x12_1),.int .i64 0] (fun _=>True) (fun _=>False) rfl rfl ?aP (fun _ hk=>hk.elim) ?aF ?aO ?aB ?aS ?aL ?_;(case aP=>exact yig _ _ _ (⟨rd l0 x12_1,0⟩:S150));(case aB=>exact zB);(case aF=>exact fun _ _=>trivial);(case aO=>exact(zR HO_4.out));(case aS=>exact(yaf zB));(case aL=>have:=LMc7.out;omega);intro v152 w12 ho hb hg hat;rw[← Ny151.out] at ho;have n0_:=yaa.mk (hb);have n1_:=yaa.mk (ho);clear HB;clear HO_4;have HB:=n0_;have HO153:=n1_;clear n0_ n1_;clear ho hb hg hat;obtain⟨Ao13,co13,eo13⟩:=Kd.R_slice HO153.out;subst eo13;have p154:0≤((ji8):Int):=of_decide_eq_true zA;have q154:(ji8)<(y151.length:Int):=of_decide_eq_true zA;obtain⟨ad154,e154,hx154_0,hx154_1⟩:=ykr (Kd.R_reads' HO153.out).2.2 (ji8) p154 q154;cases e154;replace p154:=eq_true p154;replace q154:=eq_true q154;have p11:0≤((ji8):Int):=of_decide_eq_true zA;have q11:((ji8):Int)<((y151.length:Int):Int):=of_decide_eq_true zA;obtain⟨go11,co11,eo11,gb11,gl11,cl11,HG11⟩:=Kd.R_form HO153.out (by omega);(first|cases eo11|(injection eo11 with ea_ en_ ec_;(first|subst ea_|(injection ea_ with ea_;subst ea_));subst ec_;clear en_));have GB11:=yaa.mk gb11;have GG11:=yaa.mk HG11;clear gb11 gl11 HG11;(first|simp only[ydl] at hx154_0|skip);(first|simp only[ydl] at hx154_1|skip);obtain⟨ce11,hcl11,hM11,hcc11,hfr11⟩:=Kd.R_elem HO153.out z150 ((ji8):Int) p11 q11;obtain rfl:=ygx hM11;have hx11_0:w12.cell? ⟨go11,((ji8):Int).toNat*2,none⟩=some (.int .i64 ((yat y151 (ji8)).f0)):=hcc11 0 _ rfl;have hx11_1:w12.cell? ⟨go11,((ji8):Int).toNat*2+1,none⟩=some (.int .i64 ((yat y151 (ji8)).f1)):=hcc11 1 _ rfl;have hf11_0:w12.frozen? ⟨go11,((ji8):Int).toNat*2,none⟩=false:=hfr11 0;have hf11_1:w12.frozen? ⟨go11,((ji8):Int).toNat*2+1,none⟩=false:=hfr11 1;clear hcl11 hcc11 hfr11 hM11;replace p11:=eq_true p11;replace q11:=eq_true q11;have HX14:=yaa.mk (show Kd.R k150 150 w12 w.heap.size (fun _=>True) (.slice (some ⟨go11,0,none⟩) y151.length co13) y151 from(zR HO153.out));obtain⟨ce14,hcl14,hM14,hcc14,hfr14⟩:=Kd.R_elem HX14.out z150 ((ji8):Int) (of_decide_eq_true zA) (by have h_:((ji8):Int)<((y151.length:Int):Int):=of_decide_eq_true zA;first|exact h_|(have e_:=(Kd.R_reads' HO153.out).1;omega)|simpa using h_);obtain rfl:=ygx hM14;have HP14:=Kd.R_seg HX14.out ((ji8):Int) (of_decide_eq_true zA) (by have h_:((ji8):Int)<((y151.length:Int):Int):=of_decide_eq_true zA;first|exact h_|(have e_:=(Kd.R_reads' HO153.out).1;omega)|simpa using h_) (seg:=[.int .i64 (wrap64 (((yat y151 (ji8)).f1)+1))]) (j:=1) hcl14 hcc14 (show 2≤2 from by decide) (x':=(⟨(yat y151 (ji8)).f0,wrap64 (((yat y151 (ji8)).f1)+1)⟩:S150)) (yig _ _ _ (⟨(yat y151 (ji8)).f0,wrap64 (((yat y151 (ji8)).f1)+1)⟩:S150) ) (fun _ hk=>hk);have hx14_1:=hcc14 1 _ rfl;(try simp only[show(k150).sz=2 from rfl,Nat.mul_one,Nat.add_zero] at hx14_1);have hf14_1:=hfr14 1;(try simp only[show(k150).sz=2 from rfl,Nat.mul_one,Nat.add_zero] at hf14_1);clear hcl14 hcc14 hfr14 hM14)|((with_reducible refine yfu (t:=3) (p:=42) rfl ?_);refine yfc (t:=3) (p:=42) (v:=?vo_w15) (w1:=(w12.setCell ⟨go11,((ji8):Int).toNat*2+1,none⟩ (.int .i64 (wrap64 (((yat y151 (ji8)).f1)+1))))) ?hg ?ho ?hn ?hr ?_;(case ho=>rfl);(case hg=>rfl);(case hn=>rfl);(case hr=>first|(go_simp;done)|(go_simp;rfl));intro w15 hw;have hg:w12.grownBy w15 (some go11):=(by rw[hw];exact HP14.2);have hp_:Kd.R k150 150 w15 w.heap.size (fun _=>True) (.slice (some ⟨go11,0,none⟩) y151.length co13) y155:=(by rw[hw,Ny155.out];exact HP14.1);clear HP14;have n0_:=yaa.mk (hp_);have n1_:=yaa.mk ((by rw[hw];exact yga (HB.out) GB11.out:Below w.heap.size w w15));clear HO153;clear HB;have HO153:=n0_;have HB:=n1_;clear n0_ n1_;clear hg hw hp_))
           go_roundg k1
           case measure=>have:=HK1.out;omega
           case rel=>exact⟨(y155),(wrap64 (x12_1+1)),zF,H',⟨by have:=HK1.out;omega⟩,⟨zR HO153.out⟩,⟨zB⟩⟩
          ·rw[if_neg c10] at H
           exact absurd H (by simp)
         ·rw[if_neg c9] at H
          exact absurd H (by simp)
        ·rw[if_neg c7] at H
         exact absurd H (by simp)
       ·rw[if_neg c6] at H
        have c6b0:(x12_1 == 0)=false:=beq_eq_false_iff_ne.mpr c6
        have c6b1:(x12_1 != 0)=true:=bne_iff_ne.mpr c6
        obtain⟨ji16,hji16⟩:∃ j_:Int,(wrap64 (x12_1-1))=j_:=⟨_,rfl⟩
        replace H:(if 0≤(ji16) then (if (ji16)<(l0.length:Int) then (if (rd l0 x12_1)=(rd l0 (ji16)) then (if 0≤(wrap64 ((x4_1.length:Int)-1)) then (if (wrap64 ((x4_1.length:Int)-1))<(x4_1.length:Int) then (ybl.l0 k1 l0 (x4_1.set ((wrap64 ((x4_1.length:Int)-1)):Int).toNat (⟨(yat x4_1 (wrap64 ((x4_1.length:Int)-1))).f0,wrap64 (((yat x4_1 (wrap64 ((x4_1.length:Int)-1))).f1)+1)⟩:S150)) l0 (l0.length:Int) (wrap64 (x12_1+1))) else (none)) else (none)) else (if x4_1.length<8796093022208 then ((some (x4_1++[(⟨rd l0 x12_1,0⟩:S150)]:List (S150))).bind fun y159=>(if 0≤(wrap64 ((y159.length:Int)-1)) then (if (wrap64 ((y159.length:Int)-1))<(y159.length:Int) then (ybl.l0 k1 l0 (y159.set ((wrap64 ((y159.length:Int)-1)):Int).toNat (⟨(yat y159 (wrap64 ((y159.length:Int)-1))).f0,wrap64 (((yat y159 (wrap64 ((y159.length:Int)-1))).f1)+1)⟩:S150)) l0 (l0.length:Int) (wrap64 (x12_1+1))) else (none)) else (none))) else (none))) else (none)) else (none))=some (r1,r2):=by first|(rw[hji16] at H;exact H)|(simp only[hji16] at H ⊢;exact H)
        have hji16w:(IntKind.i64.wrap (x12_1-1))=ji16:=(ybz _).trans hji16
        by_cases c17:0≤(ji16)
        ·rw[if_pos c17] at H
         have c17b0:=decide_eq_true c17
         clear c17
         by_cases c18:(ji16)<(l0.length:Int)
         ·rw[if_pos c18] at H
          have c18b0:=decide_eq_true c18
          clear c18
          by_cases c19:(rd l0 x12_1)=(rd l0 (ji16))
          ·rw[if_pos c19] at H
           have c19b0:((rd l0 x12_1) == (rd l0 (ji16)))=true:=beq_iff_eq.mpr c19
           have c19b1:((rd l0 x12_1) != (rd l0 (ji16)))=false:=bne_eq_false_iff_eq.mpr c19
           clear c19
           obtain⟨ji20,hji20⟩:∃ j_:Int,(wrap64 ((x4_1.length:Int)-1))=j_:=⟨_,rfl⟩
           replace H:(if 0≤(ji20) then (if (ji20)<(x4_1.length:Int) then (ybl.l0 k1 l0 (x4_1.set ((ji20):Int).toNat (⟨(yat x4_1 (ji20)).f0,wrap64 (((yat x4_1 (ji20)).f1)+1)⟩:S150)) l0 (l0.length:Int) (wrap64 (x12_1+1))) else (none)) else (none))=some (r1,r2):=by first|(rw[hji20] at H;exact H)|(simp only[hji20] at H ⊢;exact H)
           have hji20w:(IntKind.i64.wrap ((x4_1.length:Int)-1))=ji20:=(ybz _).trans hji20
           by_cases c21:0≤(ji20)
           ·rw[if_pos c21] at H
            have c21b0:=decide_eq_true c21
            clear c21
            by_cases c22:(ji20)<(x4_1.length:Int)
            ·rw[if_pos c22] at H
             have c22b0:=decide_eq_true c22
             clear c22
             obtain⟨y158,hy158⟩:∃ y_:List (S150),y_=(x4_1.set ((ji20):Int).toNat (⟨(yat x4_1 (ji20)).f0,wrap64 (((yat x4_1 (ji20)).f1)+1)⟩:S150)):=⟨_,rfl⟩
             replace H:(ybl.l0 k1 l0 y158 l0 (l0.length:Int) (wrap64 (x12_1+1)))=some (r1,r2):=by first|(rw[hy158];with_reducible exact H)|(have H2_:=(Option.bind_some _ _).symm.trans H;rw[hy158];with_reducible exact H2_)|(have H2_:=(Option.bind_some _ _).symm.trans H;with_reducible exact H2_)|with_reducible exact H|(rw[hy158];exact H)|exact H
             have Ny158:=yaa.mk hy158
             clear hy158
             have H':=yaa.mk H
             clear H
             have p150:0≤(x12_1:Int):=of_decide_eq_true zA
             have q150:x12_1<(l0.length:Int):=of_decide_eq_true zA
             obtain⟨ad150,e150,hx150_0⟩:=Kd.at_int HR0.out x12_1 p150 q150
             cases e150
             replace hx150_0:=(HB.out.cell (World.block_lt_of_cell? w _ hx150_0)).trans hx150_0
             replace p150:=eq_true p150
             replace q150:=eq_true q150
             have p156:0≤((ji16):Int):=of_decide_eq_true zA
             have q156:(ji16)<(l0.length:Int):=of_decide_eq_true zA
             obtain⟨ad156,e156,hx156_0⟩:=Kd.at_int HR0.out (ji16) p156 q156
             obtain rfl:ad150=ad156:=(by injection e156)
             replace hx156_0:=(HB.out.cell (World.block_lt_of_cell? w _ hx156_0)).trans hx156_0
             replace p156:=eq_true p156
             replace q156:=eq_true q156
             obtain⟨Ao24,co24,eo24⟩:=Kd.R_slice HO_4.out
             subst eo24
             have p157:0≤((ji20):Int):=of_decide_eq_true zA
             have q157:(ji20)<(x4_1.length:Int):=of_decide_eq_true zA
             obtain⟨ad157,e157,hx157_0,hx157_1⟩:=ykr (Kd.R_reads' HO_4.out).2.2 (ji20) p157 q157
             cases e157
             replace p157:=eq_true p157
             replace q157:=eq_true q157
             have p23:0≤((ji20):Int):=of_decide_eq_true zA
             have q23:((ji20):Int)<((x4_1.length:Int):Int):=of_decide_eq_true zA
             obtain⟨go23,co23,eo23,gb23,gl23,cl23,HG23⟩:=Kd.R_form HO_4.out (by omega)
             (first|cases eo23|(injection eo23 with ea_ en_ ec_;(first|subst ea_|(injection ea_ with ea_;subst ea_));subst ec_;clear en_))
             have GB23:=yaa.mk gb23
             have GG23:=yaa.mk HG23
             clear gb23 gl23 HG23
             (first|simp only[ydl] at hx157_0|skip)
             (first|simp only[ydl] at hx157_1|skip)
             obtain⟨ce23,hcl23,hM23,hcc23,hfr23⟩:=Kd.R_elem HO_4.out z150 ((ji20):Int) p23 q23
             obtain rfl:=ygx hM23
             have hx23_0:wr.cell? ⟨go23,((ji20):Int).toNat*2,none⟩=some (.int .i64 ((yat x4_1 (ji20)).f0)):=hcc23 0 _ rfl
             have hx23_1:wr.cell? ⟨go23,((ji20):Int).toNat*2+1,none⟩=some (.int .i64 ((yat x4_1 (ji20)).f1)):=hcc23 1 _ rfl
             have hf23_0:wr.frozen? ⟨go23,((ji20):Int).toNat*2,none⟩=false:=hfr23 0
             have hf23_1:wr.frozen? ⟨go23,((ji20):Int).toNat*2+1,none⟩=false:=hfr23 1
             clear hcl23 hcc23 hfr23 hM23
             replace p23:=eq_true p23
             replace q23:=eq_true q23
             have HX25:=yaa.mk (show Kd.R k150 150 wr w.heap.size (fun _=>True) (.slice (some ⟨go23,0,none⟩) x4_1.length co24) x4_1 from(zR HO_4.out))
             obtain⟨ce25,hcl25,hM25,hcc25,hfr25⟩:=Kd.R_elem HX25.out z150 ((ji20):Int) (of_decide_eq_true zA) (by have h_:((ji20):Int)<((x4_1.length:Int):Int):=of_decide_eq_true zA;first|exact h_|(have e_:=(Kd.R_reads' HO_4.out).1;omega)|simpa using h_)
             obtain rfl:=ygx hM25
             have HP25:=Kd.R_seg HX25.out ((ji20):Int) (of_decide_eq_true zA) (by have h_:((ji20):Int)<((x4_1.length:Int):Int):=of_decide_eq_true zA;first|exact h_|(have e_:=(Kd.R_reads' HO_4.out).1;omega)|simpa using h_) (seg:=[.int .i64 (wrap64 (((yat x4_1 (ji20)).f1)+1))]) (j:=1) hcl25 hcc25 (show 2≤2 from by decide) (x':=(⟨(yat x4_1 (ji20)).f0,wrap64 (((yat x4_1 (ji20)).f1)+1)⟩:S150)) (yig _ _ _ (⟨(yat x4_1 (ji20)).f0,wrap64 (((yat x4_1 (ji20)).f1)+1)⟩:S150) ) (fun _ hk=>hk)
             have hx25_1:=hcc25 1 _ rfl
             (try simp only[show(k150).sz=2 from rfl,Nat.mul_one,Nat.add_zero] at hx25_1)
             have hf25_1:=hfr25 1
             (try simp only[show(k150).sz=2 from rfl,Nat.mul_one,Nat.add_zero] at hf25_1)
             clear hcl25 hcc25 hfr25 hM25
             go_wp2_with (first|((with_reducible refine yfu (t:=3) (p:=42) rfl ?_);refine yfc (t:=3) (p:=42) (v:=?vo_w26) (w1:=(wr.setCell ⟨go23,((ji20):Int).toNat*2+1,none⟩ (.int .i64 (wrap64 (((yat x4_1 (ji20)).f1)+1))))) ?hg ?ho ?hn ?hr ?_;(case ho=>rfl);(case hg=>rfl);(case hn=>rfl);(case hr=>first|(go_simp;done)|(go_simp;rfl));intro w26 hw;have hg:wr.grownBy w26 (some go23):=(by rw[hw];exact HP25.2);have hp_:Kd.R k150 150 w26 w.heap.size (fun _=>True) (.slice (some ⟨go23,0,none⟩) x4_1.length co24) y158:=(by rw[hw,Ny158.out];exact HP25.1);clear HP25;have n0_:=yaa.mk (hp_);have n1_:=yaa.mk ((by rw[hw];exact yga (HB.out) GB23.out:Below w.heap.size w w26));clear HO_4;clear HB;have HO_4:=n0_;have HB:=n1_;clear n0_ n1_;clear hg hw hp_))
             go_roundg k1
             case measure=>have:=HK1.out;omega
             case rel=>exact⟨(y158),(wrap64 (x12_1+1)),zF,H',⟨by have:=HK1.out;omega⟩,⟨zR HO_4.out⟩,⟨zB⟩⟩
            ·rw[if_neg c22] at H
             exact absurd H (by simp)
           ·rw[if_neg c21] at H
            exact absurd H (by simp)
          ·rw[if_neg c19] at H
           have c19b0:((rd l0 x12_1) == (rd l0 (ji16)))=false:=beq_eq_false_iff_ne.mpr c19
           have c19b1:((rd l0 x12_1) != (rd l0 (ji16)))=true:=bne_iff_ne.mpr c19
           by_cases c27:x4_1.length<8796093022208
           ·rw[if_pos c27] at H
            have LMc27:=yaa.mk c27
            clear c27
            obtain⟨y159,hy159⟩:∃ y_:List (S150),y_=(x4_1++[(⟨rd l0 x12_1,0⟩:S150)]):=⟨_,rfl⟩
            replace H:(if 0≤(wrap64 ((y159.length:Int)-1)) then (if (wrap64 ((y159.length:Int)-1))<(y159.length:Int) then (ybl.l0 k1 l0 (y159.set ((wrap64 ((y159.length:Int)-1)):Int).toNat (⟨(yat y159 (wrap64 ((y159.length:Int)-1))).f0,wrap64 (((yat y159 (wrap64 ((y159.length:Int)-1))).f1)+1)⟩:S150)) l0 (l0.length:Int) (wrap64 (x12_1+1))) else (none)) else (none))=some (r1,r2):=by first|(rw[hy159];with_reducible exact H)|(have H2_:=(Option.bind_some _ _).symm.trans H;rw[hy159];with_reducible exact H2_)|(have H2_:=(Option.bind_some _ _).symm.trans H;with_reducible exact H2_)|with_reducible exact H|(rw[hy159];exact H)|exact H
            have Ny159:=yaa.mk hy159
            clear hy159
            obtain⟨ji28,hji28⟩:∃ j_:Int,(wrap64 ((y159.length:Int)-1))=j_:=⟨_,rfl⟩
            replace H:(if 0≤(ji28) then (if (ji28)<(y159.length:Int) then (ybl.l0 k1 l0 (y159.set ((ji28):Int).toNat (⟨(yat y159 (ji28)).f0,wrap64 (((yat y159 (ji28)).f1)+1)⟩:S150)) l0 (l0.length:Int) (wrap64 (x12_1+1))) else (none)) else (none))=some (r1,r2):=by first|(rw[hji28] at H;exact H)|(simp only[hji28] at H ⊢;exact H)
            have hji28w:(IntKind.i64.wrap ((y159.length:Int)-1))=ji28:=(ybz _).trans hji28
            by_cases c29:0≤(ji28)
            ·rw[if_pos c29] at H
             have c29b0:=decide_eq_true c29
             clear c29
             by_cases c30:(ji28)<(y159.length:Int)
             ·rw[if_pos c30] at H
              have c30b0:=decide_eq_true c30
              clear c30
              obtain⟨y163,hy163⟩:∃ y_:List (S150),y_=(y159.set ((ji28):Int).toNat (⟨(yat y159 (ji28)).f0,wrap64 (((yat y159 (ji28)).f1)+1)⟩:S150)):=⟨_,rfl⟩
              replace H:(ybl.l0 k1 l0 y163 l0 (l0.length:Int) (wrap64 (x12_1+1)))=some (r1,r2):=by first|(rw[hy163];with_reducible exact H)|(have H2_:=(Option.bind_some _ _).symm.trans H;rw[hy163];with_reducible exact H2_)|(have H2_:=(Option.bind_some _ _).symm.trans H;with_reducible exact H2_)|with_reducible exact H|(rw[hy163];exact H)|exact H
              have Ny163:=yaa.mk hy163
              clear hy163
              have H':=yaa.mk H
              clear H
              have p150:0≤(x12_1:Int):=of_decide_eq_true zA
              have q150:x12_1<(l0.length:Int):=of_decide_eq_true zA
              obtain⟨ad150,e150,hx150_0⟩:=Kd.at_int HR0.out x12_1 p150 q150
              cases e150
              replace hx150_0:=(HB.out.cell (World.block_lt_of_cell? w _ hx150_0)).trans hx150_0
              replace p150:=eq_true p150
              replace q150:=eq_true q150
              have p156:0≤((ji16):Int):=of_decide_eq_true zA
              have q156:(ji16)<(l0.length:Int):=of_decide_eq_true zA
              obtain⟨ad156,e156,hx156_0⟩:=Kd.at_int HR0.out (ji16) p156 q156
              obtain rfl:ad150=ad156:=(by injection e156)
              replace hx156_0:=(HB.out.cell (World.block_lt_of_cell? w _ hx156_0)).trans hx156_0
              replace p156:=eq_true p156
              replace q156:=eq_true q156
              go_wp2_with (first|((with_reducible refine ybm (b:=.append) (xs:=#[.tmp 28,.tmp 31]) rfl ?_);at_builtin;refine Kd.R_append k150 (w0:=w) w.heap.size rfl (.tmp 28) (.tmp 31) 146 150 (.agg #[(.int .i64 0),(.int .i64 0)]) 16 rfl Tryz.underlying146 info150 rfl (by decide) (by omega) u4 x4_1 (⟨rd l0 x12_1,0⟩:S150) [.int .i64 (rd l0 x12_1),.int .i64 0] (fun _=>True) (fun _=>False) rfl rfl ?aP (fun _ hk=>hk.elim) ?aF ?aO ?aB ?aS ?aL ?_;(case aP=>exact yig _ _ _ (⟨rd l0 x12_1,0⟩:S150));(case aB=>exact zB);(case aF=>exact fun _ _=>trivial);(case aO=>exact(zR HO_4.out));(case aS=>exact(yaf zB));(case aL=>have:=LMc27.out;omega);intro v160 w32 ho hb hg hat;rw[← Ny159.out] at ho;have n0_:=yaa.mk (hb);have n1_:=yaa.mk (ho);clear HB;clear HO_4;have HB:=n0_;have HO161:=n1_;clear n0_ n1_;clear ho hb hg hat;obtain⟨Ao33,co33,eo33⟩:=Kd.R_slice HO161.out;subst eo33;have p162:0≤((ji28):Int):=of_decide_eq_true zA;have q162:(ji28)<(y159.length:Int):=of_decide_eq_true zA;obtain⟨ad162,e162,hx162_0,hx162_1⟩:=ykr (Kd.R_reads' HO161.out).2.2 (ji28) p162 q162;cases e162;replace p162:=eq_true p162;replace q162:=eq_true q162;have p31:0≤((ji28):Int):=of_decide_eq_true zA;have q31:((ji28):Int)<((y159.length:Int):Int):=of_decide_eq_true zA;obtain⟨go31,co31,eo31,gb31,gl31,cl31,HG31⟩:=Kd.R_form HO161.out (by omega);(first|cases eo31|(injection eo31 with ea_ en_ ec_;(first|subst ea_|(injection ea_ with ea_;subst ea_));subst ec_;clear en_));have GB31:=yaa.mk gb31;have GG31:=yaa.mk HG31;clear gb31 gl31 HG31;(first|simp only[ydl] at hx162_0|skip);(first|simp only[ydl] at hx162_1|skip);obtain⟨ce31,hcl31,hM31,hcc31,hfr31⟩:=Kd.R_elem HO161.out z150 ((ji28):Int) p31 q31;obtain rfl:=ygx hM31;have hx31_0:w32.cell? ⟨go31,((ji28):Int).toNat*2,none⟩=some (.int .i64 ((yat y159 (ji28)).f0)):=hcc31 0 _ rfl;have hx31_1:w32.cell? ⟨go31,((ji28):Int).toNat*2+1,none⟩=some (.int .i64 ((yat y159 (ji28)).f1)):=hcc31 1 _ rfl;have hf31_0:w32.frozen? ⟨go31,((ji28):Int).toNat*2,none⟩=false:=hfr31 0;have hf31_1:w32.frozen? ⟨go31,((ji28):Int).toNat*2+1,none⟩=false:=hfr31 1;clear hcl31 hcc31 hfr31 hM31;replace p31:=eq_true p31;replace q31:=eq_true q31;have HX34:=yaa.mk (show Kd.R k150 150 w32 w.heap.size (fun _=>True) (.slice (some ⟨go31,0,none⟩) y159.length co33) y159 from(zR HO161.out));obtain⟨ce34,hcl34,hM34,hcc34,hfr34⟩:=Kd.R_elem HX34.out z150 ((ji28):Int) (of_decide_eq_true zA) (by have h_:((ji28):Int)<((y159.length:Int):Int):=of_decide_eq_true zA;first|exact h_|(have e_:=(Kd.R_reads' HO161.out).1;omega)|simpa using h_);obtain rfl:=ygx hM34;have HP34:=Kd.R_seg HX34.out ((ji28):Int) (of_decide_eq_true zA) (by have h_:((ji28):Int)<((y159.length:Int):Int):=of_decide_eq_true zA;first|exact h_|(have e_:=(Kd.R_reads' HO161.out).1;omega)|simpa using h_) (seg:=[.int .i64 (wrap64 (((yat y159 (ji28)).f1)+1))]) (j:=1) hcl34 hcc34 (show 2≤2 from by decide) (x':=(⟨(yat y159 (ji28)).f0,wrap64 (((yat y159 (ji28)).f1)+1)⟩:S150)) (yig _ _ _ (⟨(yat y159 (ji28)).f0,wrap64 (((yat y159 (ji28)).f1)+1)⟩:S150) ) (fun _ hk=>hk);have hx34_1:=hcc34 1 _ rfl;(try simp only[show(k150).sz=2 from rfl,Nat.mul_one,Nat.add_zero] at hx34_1);have hf34_1:=hfr34 1;(try simp only[show(k150).sz=2 from rfl,Nat.mul_one,Nat.add_zero] at hf34_1);clear hcl34 hcc34 hfr34 hM34)|((with_reducible refine yfu (t:=3) (p:=42) rfl ?_);refine yfc (t:=3) (p:=42) (v:=?vo_w35) (w1:=(w32.setCell ⟨go31,((ji28):Int).toNat*2+1,none⟩ (.int .i64 (wrap64 (((yat y159 (ji28)).f1)+1))))) ?hg ?ho ?hn ?hr ?_;(case ho=>rfl);(case hg=>rfl);(case hn=>rfl);(case hr=>first|(go_simp;done)|(go_simp;rfl));intro w35 hw;have hg:w32.grownBy w35 (some go31):=(by rw[hw];exact HP34.2);have hp_:Kd.R k150 150 w35 w.heap.size (fun _=>True) (.slice (some ⟨go31,0,none⟩) y159.length co33) y163:=(by rw[hw,Ny163.out];exact HP34.1);clear HP34;have n0_:=yaa.mk (hp_);have n1_:=yaa.mk ((by rw[hw];exact yga (HB.out) GB31.out:Below w.heap.size w w35));clear HO161;clear HB;have HO161:=n0_;have HB:=n1_;clear n0_ n1_;clear hg hw hp_))
              go_roundg k1
              case measure=>have:=HK1.out;omega
              case rel=>exact⟨(y163),(wrap64 (x12_1+1)),zF,H',⟨by have:=HK1.out;omega⟩,⟨zR HO161.out⟩,⟨zB⟩⟩
             ·rw[if_neg c30] at H
              exact absurd H (by simp)
            ·rw[if_neg c29] at H
             exact absurd H (by simp)
           ·rw[if_neg c27] at H
            exact absurd H (by simp)
         ·rw[if_neg c18] at H
          exact absurd H (by simp)
        ·rw[if_neg c17] at H
         exact absurd H (by simp)
      ·rw[if_neg c5] at H
       exact absurd H (by simp)
     ·rw[if_neg c4] at H
      exact absurd H (by simp)
    ·rw[if_neg c3] at H
     have c3b0:=decide_eq_false c3
     clear c3
     simp only[Option.some.injEq,Prod.mk.injEq] at H
     obtain⟨rfl,rfl⟩:=H
     go_wp2
     go_ret2
     exact⟨_,zG,zR HO_4.out,zB⟩
def ye0.f (a0:Int):Option (Int):=some (Go.bits .xor .u64 (IntKind.u64.wrap (wrap64 (a0*2))) (IntKind.u64.wrap (a0 / 9223372036854775808)))
theorem ye0.calls (a0:Int) (r:Int) (w:World) (h:ye0.f a0=some r) :
  Calls Tryz.prog 125 #[.int .i64 a0] w fun e w'=>e=.returned (.int .u64 r)∧yap w w':=by
 have H:(some (Go.bits .xor .u64 (IntKind.u64.wrap (wrap64 (a0*2))) (IntKind.u64.wrap (a0 / 9223372036854775808))))=some r:=h
 clear h
 obtain rfl:=Option.some.inj H
 go_enter Tryz.func125,Tryz.ntmps125
 go_wp2
 go_ret
 exact⟨zF,zD⟩
def yct.l0:Nat→List Int→List (S150)→Int→Int→Option (List Int×Int)
 | 0,_,_,_,_=>none
 | k+1,x6,x21,x22,x23=>if x23<x22 then (if 0≤x23 then (if x23<(x21.length:Int) then ((ye0.f ((yat x21 x23).f0)).bind fun t173=>((ya0.f k t173).bind fun t174=>(if x6.length+t174.length<140737488355328 then ((some (x6++t174:List Int)).bind fun y177=>((ya0.f k (IntKind.u64.wrap ((yat x21 x23).f1))).bind fun t180=>(if y177.length+t180.length<140737488355328 then (yct.l0 k (y177++t180) x21 x22 (wrap64 (x23+1))) else (none)))) else (none)))) else (none)) else (none)) else (some (x6,0))
def yct.f (k:Nat) (l0:List Int):Option (List Int×Int):=(ybl.f k l0).bind fun bt164=>(if bt164.2=0 then ((ya0.f k (IntKind.u64.wrap ((bt164.1.length:Int)))).bind fun t168=>(yct.l0 k t168 bt164.1 (bt164.1.length:Int) 0)) else (some (([]:List Int),bt164.2)))
theorem yct.calls (k:Nat) (A0:Option Addr) (c0:Nat) (l0:List Int) (r1:List Int) (r2:Int) (w:World) (hr0:Kd.C (Kd.int .i64) w A0 l0.length l0) (hc0:l0.length≤c0) (h:yct.f k l0=some (r1,r2)) :
  Calls Tryz.prog 84 #[.slice A0 l0.length c0] w fun e w'=>∃ v0_:Value,e=.returned (.tuple #[v0_,.int .i64 r2])∧Kd.R (Kd.int .u8) 5 w' w.heap.size (fun _=>True) v0_ r1∧Below w.heap.size w w':=by
 have hu150:=Tryz.underlying150
 have HR0:=yaa.mk hr0
 have HC0:=yaa.mk hc0
 clear hr0 hc0
 have HB:=yaa.mk (Below.refl w.heap.size w)
 have H:((ybl.f k l0).bind fun bt164=>(if bt164.2=0 then ((ya0.f k (IntKind.u64.wrap ((bt164.1.length:Int)))).bind fun t168=>(yct.l0 k t168 bt164.1 (bt164.1.length:Int) 0)) else (some (([]:List Int),bt164.2))))=some (r1,r2):=h
 clear h
 replace H:=Option.bind_eq_some_iff.mp H
 obtain⟨⟨t164,t165⟩,A20,H⟩:=H
 try dsimp only at H
 have A2:=yaa.mk A20
 clear A20
 by_cases c3:t165=0
 ·rw[if_pos c3] at H
  have c3b0:(t165 == 0)=true:=beq_iff_eq.mpr c3
  have c3b1:(t165 != 0)=false:=bne_eq_false_iff_eq.mpr c3
  clear c3
  replace H:=Option.bind_eq_some_iff.mp H
  obtain⟨t168,A40,H⟩:=H
  try dsimp only at H
  have A4:=yaa.mk A40
  clear A40
  have H':=yaa.mk H
  clear H
  go_enter Tryz.func84,Tryz.ntmps84
  go_wp2_with (first|((with_reducible refine yad (f:=124) rfl ?_);refine yak (some 11) rfl rfl Tryz.func124 (by kernel_rfl) rfl #[.slice A0 l0.length c0] rfl zE ?_;(with_reducible refine(ybl.calls k _ _ l0 t164 t165 _ ?side1 ?side2 A2.out).mono ?_);(case side1=>exact zC HR0.out);(case side2=>exact HC0.out);rintro e w5 ⟨v166,rfl,ho0,hb⟩;refine⟨_,rfl,?_⟩;have n0_:=yaa.mk (Kd.R_lower ho0 (yaf zB));have n1_:=yaa.mk (yai zB hb);clear HB;have HO167:=n0_;have HB:=n1_;clear n0_ n1_;(try clear hb);(try clear hb2);(try clear hk);(try clear hi);(try clear ho0);obtain⟨Ao6,co6,eo6⟩:=Kd.R_slice HO167.out;subst eo6)|((with_reducible refine yad (f:=52) rfl ?_);refine yak (some 20) rfl rfl Tryz.func52 (by kernel_rfl) rfl #[.int .u64 (IntKind.u64.wrap ((t164.length:Int)))] rfl zE ?_;(with_reducible refine(ya0.calls k (IntKind.u64.wrap ((t164.length:Int))) t168 _ A4.out).mono ?_);rintro e w7 ⟨v169,rfl,ho0,hb⟩;refine⟨_,rfl,?_⟩;have n0_:=yaa.mk (Kd.R_below (zR HO167.out) hb);have n1_:=yaa.mk (Kd.R_lower ho0 (yaf zB));have n2_:=yaa.mk (yai zB hb);clear HO167;clear HB;have HO167:=n0_;have HO170:=n1_;have HB:=n2_;clear n0_ n1_ n2_;(try clear hb);(try clear hb2);(try clear hk);(try clear hi);(try clear ho0)))
  go_loopg [6,23] k (fun kq v6 v23 w'=>∃ (x6_1:List Int) (x23_1:Int),v23=.int .i64 x23_1∧yaa (yct.l0 kq x6_1 t164 (t164.length:Int) x23_1=some (r1,r2))∧yaa (kq≤k)∧yaa (Kd.R (Kd.int .u8) 5 w' w.heap.size (fun _=>True) v6 x6_1)∧yaa (Kd.R k150 150 w' w.heap.size (fun _=>True) (.slice Ao6 t164.length co6) t164)∧yaa (Below w.heap.size w w'))
  case atStart=>exact⟨(t168),(0),zF,H',⟨Nat.le_refl _⟩,⟨zR HO170.out⟩,⟨zR HO167.out⟩,⟨zB⟩⟩
  case round =>
   clear H'
   try clear c1
   try clear p2
   try clear c3
   try clear c3b0
   try clear c3b1
   try clear c5
   obtain⟨x6_1,x23_1,rfl,HA,HK1,HO_6,HO_21,HB⟩:=hrel
   cases gk with
   | zero=>exact absurd HA.out (by simp [yct.l0])
   | succ k1 =>
    have H:=HA.out
    clear HA
    simp only[yct.l0] at H
    by_cases c8:x23_1<(t164.length:Int)
    ·rw[if_pos c8] at H
     have c8b0:=decide_eq_true c8
     clear c8
     by_cases c9:0≤x23_1
     ·rw[if_pos c9] at H
      have c9b0:=decide_eq_true c9
      clear c9
      by_cases c10:x23_1<(t164.length:Int)
      ·rw[if_pos c10] at H
       have c10b0:=decide_eq_true c10
       clear c10
       replace H:=Option.bind_eq_some_iff.mp H
       obtain⟨t173,A110,H⟩:=H
       try dsimp only at H
       have A11:=yaa.mk A110
       clear A110
       replace H:=Option.bind_eq_some_iff.mp H
       obtain⟨t174,A120,H⟩:=H
       try dsimp only at H
       have A12:=yaa.mk A120
       clear A120
       by_cases c13:x6_1.length+t174.length<140737488355328
       ·rw[if_pos c13] at H
        have LMc13:=yaa.mk c13
        clear c13
        obtain⟨y177,hy177⟩:∃ y_:List Int,y_=(x6_1++t174):=⟨_,rfl⟩
        replace H:((ya0.f k1 (IntKind.u64.wrap ((yat t164 x23_1).f1))).bind fun t180=>(if y177.length+t180.length<140737488355328 then (yct.l0 k1 (y177++t180) t164 (t164.length:Int) (wrap64 (x23_1+1))) else (none)))=some (r1,r2):=by first|(rw[hy177];with_reducible exact H)|(have H2_:=(Option.bind_some _ _).symm.trans H;rw[hy177];with_reducible exact H2_)|(have H2_:=(Option.bind_some _ _).symm.trans H;with_reducible exact H2_)|with_reducible exact H|(rw[hy177];exact H)|exact H
        have Ny177:=yaa.mk hy177
        clear hy177
        replace H:=Option.bind_eq_some_iff.mp H
        obtain⟨t180,A140,H⟩:=H
        try dsimp only at H
        have A14:=yaa.mk A140
        clear A140
        by_cases c15:y177.length+t180.length<140737488355328
        ·rw[if_pos c15] at H
         have LMc15:=yaa.mk c15
         clear c15
         obtain⟨y183,hy183⟩:∃ y_:List Int,y_=(y177++t180):=⟨_,rfl⟩
         replace H:(yct.l0 k1 y183 t164 (t164.length:Int) (wrap64 (x23_1+1)))=some (r1,r2):=by first|(rw[hy183];with_reducible exact H)|(have H2_:=(Option.bind_some _ _).symm.trans H;rw[hy183];with_reducible exact H2_)|(have H2_:=(Option.bind_some _ _).symm.trans H;with_reducible exact H2_)|with_reducible exact H|(rw[hy183];exact H)|exact H
         have Ny183:=yaa.mk hy183
         clear hy183
         have H':=yaa.mk H
         clear H
         have p171:0≤(x23_1:Int):=of_decide_eq_true zA
         have q171:x23_1<(t164.length:Int):=of_decide_eq_true zA
         obtain⟨ad171,e171,hx171_0,hx171_1⟩:=ykr (Kd.R_reads' HO_21.out).2.2 x23_1 p171 q171
         cases e171
         replace p171:=eq_true p171
         replace q171:=eq_true q171
         go_wp2_with (first|((with_reducible refine yb1 (N:=8) rfl ?_);refine yfr ?hg (N:=8) ?hd (cs:=#[.int .i64 0,.int .i64 0]) (t:=150) ?hr ?_;(case hd=>rfl);(case hg=>rfl);(case hr=>first|(go_simp;done)|(go_simp;rfl));intro gb172 hg w16 hbox hb;have n0_:=yaa.mk (Kd.R_below (zR HO_6.out) hb);have n1_:=yaa.mk (Kd.R_below (Kd.R_elderB (zR HO_21.out) gb172 (Nat.le_of_eq hg.symm)) hb);have n2_:=yaa.mk (yai zB hb);have n3_:=yaa.mk (hbox);have n4_:=yaa.mk ((by rw[hg];exact(yaf zB):w.heap.size≤gb172));have n5_:=yaa.mk ((by rw[hg];exact(yaf zB):w.heap.size≤gb172));clear HO_6;clear HO_21;clear HB;have HO_6:=n0_;have HO_21:=n1_;have HB:=n2_;have BK172:=n3_;have GW172:=n4_;have GE172:=n5_;clear n0_ n1_ n2_ n3_ n4_ n5_;clear hb hbox hg;have hcz17_0:w16.cell? ⟨gb172,0,none⟩=some (.int .i64 0):=(yau BK172.out 0).trans rfl;have hcz17_1:w16.cell? ⟨gb172,1,none⟩=some (.int .i64 0):=(yau BK172.out 1).trans rfl;have hfz17_0:=yas BK172.out 0;have hfz17_1:=yas BK172.out 1)|((with_reducible refine yad (f:=125) rfl ?_);refine yak (some 30) rfl rfl Tryz.func125 (by kernel_rfl) rfl #[.int .i64 ((yat t164 x23_1).f0)] rfl zE ?_;(with_reducible refine(ye0.calls ((yat t164 x23_1).f0) t173 _ A11.out).mono ?_);rintro e w' ⟨rfl,⟨nd,rfl⟩⟩;refine⟨_,rfl,?_⟩)|((with_reducible refine yad (f:=52) rfl ?_);refine yak (some 31) rfl rfl Tryz.func52 (by kernel_rfl) rfl #[.int .u64 t173] rfl zE ?_;(with_reducible refine(ya0.calls k1 t173 t174 _ A12.out).mono ?_);rintro e w18 ⟨v175,rfl,ho0,hb⟩;refine⟨_,rfl,?_⟩;have n0_:=yaa.mk (Kd.R_elder' (by (with_reducible repeat (first|apply Kd.R_alloc|apply Kd.R_drewN|apply Kd.R_drew));exact(Kd.R_mono (Kd.R_far (p:=⟨gb172,1,none⟩) (Kd.R_far (p:=⟨gb172,0,none⟩) (Kd.R_types HO_6.out BK172.out (by decide)) (fun _ hk=>hk.2) (.int .i64 ((yat t164 x23_1).f0))) (fun _ hk=>hk.2) (.int .i64 ((yat t164 x23_1).f1))) (fun _ h_=>h_.1))) (Kd.R_base ho0) hb);have n1_:=yaa.mk (Kd.R_below (by (with_reducible repeat (first|apply Kd.R_alloc|apply Kd.R_drewN|apply Kd.R_drew));exact(Kd.R_mono (Kd.R_far (p:=⟨gb172,1,none⟩) (Kd.R_far (p:=⟨gb172,0,none⟩) (Kd.R_mono HO_21.out (fun k_ hk=>(⟨hk,hk.2⟩:_∧k_≠gb172))) (fun _ hk=>hk.2) (.int .i64 ((yat t164 x23_1).f0))) (fun _ hk=>hk.2) (.int .i64 ((yat t164 x23_1).f1))) (fun _ h_=>h_.1))) hb);have n2_:=yaa.mk (Kd.R_lower (Kd.R_new' ho0 (Kd.R_lt (by (with_reducible repeat (first|apply Kd.R_alloc|apply Kd.R_drewN|apply Kd.R_drew));exact(Kd.R_mono (Kd.R_far (p:=⟨gb172,1,none⟩) (Kd.R_far (p:=⟨gb172,0,none⟩) (Kd.R_types HO_6.out BK172.out (by decide)) (fun _ hk=>hk.2) (.int .i64 ((yat t164 x23_1).f0))) (fun _ hk=>hk.2) (.int .i64 ((yat t164 x23_1).f1))) (fun _ h_=>h_.1))))) (yaf (have GE_:=GE172;zT)));have n3_:=yaa.mk (yiu (g:=gb172) (o:=.cells #[.int .i64 ((yat t164 x23_1).f0),.int .i64 ((yat t164 x23_1).f1)] 150 (0,0)) (by (with_reducible repeat (first|refine ych ?_ _|refine ycq ?_|refine ycg ?_ _));refine yf4 (cs:=#[.int .i64 ((yat t164 x23_1).f0),.int .i64 0]) ?_ 1 _ rfl;(with_reducible repeat (first|refine ych ?_ _|refine ycq ?_|refine ycg ?_ _));refine yf4 (cs:=#[.int .i64 0,.int .i64 0]) ?_ 0 _ rfl;(with_reducible repeat (first|refine ych ?_ _|refine ycq ?_|refine ycg ?_ _));exact BK172.out) hb);have n4_:=yaa.mk (yai (have GE_:=GE172;zT) hb);clear HO_6;clear HO_21;clear BK172;clear HB;have HO_6:=n0_;have HO_21:=n1_;have HO176:=n2_;have BK172:=n3_;have HB:=n4_;clear n0_ n1_ n2_ n3_ n4_;(try clear hb);(try clear hb2);(try clear hk);(try clear hi);(try clear ho0);obtain⟨Ao20,co20,eo20⟩:=Kd.R_slice HO176.out;subst eo20)|((with_reducible refine ybm (b:=.append) (xs:=#[.tmp 27,.tmp 31]) rfl ?_);at_builtin;refine Kd.R_append_rows (Kd.int .u8) (w0:=w) w.heap.size rfl (.tmp 27) (.tmp 31) 25 5 (.int .u8 0) 1 rfl Tryz.underlying25 ycj rfl (by decide) (by omega) u6 x6_1 t174 _ _ _ (fun k_=>some k_≠(.slice Ao20 t174.length co20:Value).ownBlock) (fun _=>False) rfl rfl ?aO ?aR (fun _ _ h=>h) (fun _ h=>h.elim) ?aF ?aB ?aS ?aL ?_;(case aR=>exact zC (Kd.R_reads' HO176.out).2.2);(case aB=>exact(have GE_:=GE172;zT));(case aF=>exact(fun k_ hk=>Kd.fresh' (Kd.R_lt (zR HO176.out)) k_ hk));(case aO=>exact(by (with_reducible repeat (first|apply Kd.R_alloc|apply Kd.R_drewN|apply Kd.R_drew));exact Kd.R_mono HO_6.out (fun _ hk=>hk.2)));(case aS=>exact(yaf (have GE_:=GE172;zT)));(case aL=>have:=LMc13.out;omega);intro v178 w19 ho hb hg hat;rw[← Ny177.out] at ho;have n0_:=yaa.mk (Kd.R_over' (zR HO_21.out) (Kd.R_typed (zR HO_6.out)) (by decide) hg);have n1_:=yaa.mk (yhe (g:=gb172) (o:=.cells #[.int .i64 ((yat t164 x23_1).f0),.int .i64 ((yat t164 x23_1).f1)] 150 (0,0)) (by (with_reducible repeat (first|refine ych ?_ _|refine ycq ?_|refine ycg ?_ _));exact BK172.out) hg (Kd.R_ne HO_6.out BK172.out (by decide)));have n2_:=yaa.mk (Kd.R_after (ok:=(fun _=>True)) (zR HO176.out) hg hat);have n3_:=yaa.mk (hb);have n4_:=yaa.mk (ho);clear HO_21;clear BK172;clear HO176;clear HB;clear HO_6;have HO_21:=n0_;have BK172:=n1_;have HO176:=n2_;have HB:=n3_;have HO179:=n4_;clear n0_ n1_ n2_ n3_ n4_;clear ho hb hg hat;have hcz21_0:w19.cell? ⟨gb172,0,none⟩=some (.int .i64 ((yat t164 x23_1).f0)):=(yau BK172.out 0).trans rfl;have hcz21_1:w19.cell? ⟨gb172,1,none⟩=some (.int .i64 ((yat t164 x23_1).f1)):=(yau BK172.out 1).trans rfl;have hfz21_0:=yas BK172.out 0;have hfz21_1:=yas BK172.out 1)|((with_reducible refine yad (f:=52) rfl ?_);refine yak (some 37) rfl rfl Tryz.func52 (by kernel_rfl) rfl #[.int .u64 (IntKind.u64.wrap ((yat t164 x23_1).f1))] rfl zE ?_;(with_reducible refine(ya0.calls k1 (IntKind.u64.wrap ((yat t164 x23_1).f1)) t180 _ A14.out).mono ?_);rintro e w22 ⟨v181,rfl,ho0,hb⟩;refine⟨_,rfl,?_⟩;have n0_:=yaa.mk (Kd.R_below (zR HO_21.out) hb);have n1_:=yaa.mk (Kd.R_elder' (zR HO176.out) (Kd.R_base ho0) hb);have n2_:=yaa.mk (Kd.R_elder' (zR HO179.out) (Kd.R_base ho0) hb);have n3_:=yaa.mk (Kd.R_lower (Kd.R_new' (Kd.R_new' ho0 (Kd.R_lt (zR HO176.out))) (Kd.R_lt (zR HO179.out))) (yaf (have GE_:=GE172;zT)));have n4_:=yaa.mk (yiu (g:=gb172) (o:=.cells #[.int .i64 ((yat t164 x23_1).f0),.int .i64 ((yat t164 x23_1).f1)] 150 (0,0)) (by (with_reducible repeat (first|refine ych ?_ _|refine ycq ?_|refine ycg ?_ _));exact BK172.out) hb);have n5_:=yaa.mk (yai (have GE_:=GE172;zT) hb);clear HO_21;clear HO176;clear HO179;clear BK172;clear HB;have HO_21:=n0_;have HO176:=n1_;have HO179:=n2_;have HO182:=n3_;have BK172:=n4_;have HB:=n5_;clear n0_ n1_ n2_ n3_ n4_ n5_;(try clear hb);(try clear hb2);(try clear hk);(try clear hi);(try clear ho0);obtain⟨Ao24,co24,eo24⟩:=Kd.R_slice HO182.out;subst eo24)|((with_reducible refine ybm (b:=.append) (xs:=#[.tmp 33,.tmp 37]) rfl ?_);at_builtin;refine Kd.R_append_rows (Kd.int .u8) (w0:=w) w.heap.size rfl (.tmp 33) (.tmp 37) 25 5 (.int .u8 0) 1 rfl Tryz.underlying25 ycj rfl (by decide) (by omega) v178 y177 t180 _ _ _ (fun k_=>some k_≠(.slice Ao20 t174.length co20:Value).ownBlock∧some k_≠(.slice Ao24 t180.length co24:Value).ownBlock) (fun _=>False) rfl rfl ?aO ?aR (fun _ _ h=>h) (fun _ h=>h.elim) ?aF ?aB ?aS ?aL ?_;(case aR=>exact zC (Kd.R_reads' HO182.out).2.2);(case aB=>exact(have GE_:=GE172;zT));(case aF=>exact(fun k_ hk=>⟨Kd.fresh' (Kd.R_lt (zR HO176.out)) k_ hk,Kd.fresh' (Kd.R_lt (zR HO182.out)) k_ hk⟩));(case aO=>exact(zR HO179.out));(case aS=>exact(yaf (have GE_:=GE172;zT)));(case aL=>have:=LMc15.out;omega);intro v184 w23 ho hb hg hat;rw[← Ny183.out] at ho;have n0_:=yaa.mk (Kd.R_over' (zR HO_21.out) (Kd.R_typed (zR HO179.out)) (by decide) hg);have n1_:=yaa.mk (yhe (g:=gb172) (o:=.cells #[.int .i64 ((yat t164 x23_1).f0),.int .i64 ((yat t164 x23_1).f1)] 150 (0,0)) (by (with_reducible repeat (first|refine ych ?_ _|refine ycq ?_|refine ycg ?_ _));exact BK172.out) hg (Kd.R_ne HO179.out BK172.out (by decide)));have n2_:=yaa.mk (Kd.R_after (ok:=(fun k_=>some k_≠(.slice Ao24 t180.length co24:Value).ownBlock)) (by (with_reducible repeat (first|apply Kd.R_alloc|apply Kd.R_drewN|apply Kd.R_drew));exact Kd.R_mono HO176.out (fun _ hk=>⟨hk.2,hk.1.2⟩)) hg hat);have n3_:=yaa.mk (Kd.R_after (ok:=(fun k_=>some k_≠(.slice Ao20 t174.length co20:Value).ownBlock)) (by (with_reducible repeat (first|apply Kd.R_alloc|apply Kd.R_drewN|apply Kd.R_drew));exact Kd.R_mono HO182.out (fun _ hk=>⟨hk.1.2,hk.2⟩)) hg hat);have n4_:=yaa.mk (hb);have n5_:=yaa.mk (ho);clear HO_21;clear BK172;clear HO176;clear HO182;clear HB;clear HO179;have HO_21:=n0_;have BK172:=n1_;have HO176:=n2_;have HO182:=n3_;have HB:=n4_;have HO185:=n5_;clear n0_ n1_ n2_ n3_ n4_ n5_;clear ho hb hg hat))
         go_roundg k1
         case measure=>have:=HK1.out;omega
         case rel=>exact⟨(y183),(wrap64 (x23_1+1)),zF,H',⟨by have:=HK1.out;omega⟩,⟨by (with_reducible repeat (first|apply Kd.R_alloc|apply Kd.R_drewN|apply Kd.R_drew));exact Kd.R_mono HO185.out (fun _ hk=>trivial)⟩,⟨by (with_reducible repeat (first|apply Kd.R_alloc|apply Kd.R_drewN|apply Kd.R_drew));exact Kd.R_mono HO_21.out (fun _ hk=>trivial)⟩,⟨(have GE_:=GE172;zT)⟩⟩
        ·rw[if_neg c15] at H
         exact absurd H (by simp)
       ·rw[if_neg c13] at H
        exact absurd H (by simp)
      ·rw[if_neg c10] at H
       exact absurd H (by simp)
     ·rw[if_neg c9] at H
      exact absurd H (by simp)
    ·rw[if_neg c8] at H
     have c8b0:=decide_eq_false c8
     clear c8
     simp only[Option.some.injEq,Prod.mk.injEq] at H
     obtain⟨rfl,rfl⟩:=H
     go_wp2
     go_ret2
     exact⟨_,zG,zR HO_6.out,zB⟩
 ·rw[if_neg c3] at H
  have c3b0:(t165 == 0)=false:=beq_eq_false_iff_ne.mpr c3
  have c3b1:(t165 != 0)=true:=bne_iff_ne.mpr c3
  simp only[Option.some.injEq,Prod.mk.injEq] at H
  obtain⟨rfl,rfl⟩:=H
  go_enter Tryz.func84,Tryz.ntmps84
  go_wp2_with (first|((with_reducible refine yad (f:=124) rfl ?_);refine yak (some 11) rfl rfl Tryz.func124 (by kernel_rfl) rfl #[.slice A0 l0.length c0] rfl zE ?_;(with_reducible refine(ybl.calls k _ _ l0 t164 t165 _ ?side1 ?side2 A2.out).mono ?_);(case side1=>exact zC HR0.out);(case side2=>exact HC0.out);rintro e w25 ⟨v166,rfl,ho0,hb⟩;refine⟨_,rfl,?_⟩;have n0_:=yaa.mk (Kd.R_lower ho0 (yaf zB));have n1_:=yaa.mk (yai zB hb);clear HB;have HO167:=n0_;have HB:=n1_;clear n0_ n1_;(try clear hb);(try clear hb2);(try clear hk);(try clear hi);(try clear ho0)))
  go_ret2
  exact⟨_,zG,zN,zB⟩
end Go.Proofs.YteeikgjjgfdjgaaGreat.PK
end
