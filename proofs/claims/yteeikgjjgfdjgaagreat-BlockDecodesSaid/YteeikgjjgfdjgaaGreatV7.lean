/-
  Parts of the proof: E7, E8.
-/
import Derived.Test.YteeikgjjgfdjgaaGreatV3
set_option maxHeartbeats 8000000
set_option maxRecDepth 100000
section
namespace Go.Proofs.YteeikgjjgfdjgaaGreat.PK
open Go.RowKit YteeikgjjgfdjgaaGreatW.PrintWords YteeikgjjgfdjgaaGreatW.PrintLast YteeikgjjgfdjgaaGreatW.PrintMore
attribute [local go_sem] yce ycf ycu ycv yb8 yb7 ycm yco
set_option linter.unusedVariables false
set_option linter.unusedSimpArgs false
def ybh.l0:Nat→Int→List (S53)→List Int→Int→Int→Option ((List (S53))×Int)
 | 0,_,_,_,_,_=>none
 | k+1,x1,x6,x9,x10,x11=>if x11<x10 then (if 0≤x11 then (if x11<(x9.length:Int) then (if x6.length<3518437208883 then (ybh.l0 k x1 (x6++[(⟨false,rd x9 x11,([]:List Int)⟩:S53)]) x9 x10 (wrap64 (x11+1))) else (none)) else (none)) else (none)) else (some (x6,x1))
def ybh.f (k:Nat) (l0:List Int) (a1:Int):Option ((List (S53))×Int):=ybh.l0 k a1 ([]:List (S53)) l0 (l0.length:Int) 0
theorem ybh.calls (k:Nat) (A0:Option Addr) (c0:Nat) (l0:List Int) (a1:Int) (r1:List (S53)) (r2:Int) (w:World) (hr0:Kd.C (Kd.int .i64) w A0 l0.length l0) (hc0:l0.length≤c0) (h:ybh.f k l0 a1=some (r1,r2)) :
  Calls Tryz.prog 66 #[.slice A0 l0.length c0,.int .i64 a1] w fun e w'=>∃ v0_:Value,e=.returned (.tuple #[v0_,.int .i64 r2])∧Kd.S k53 53 w' w.heap.size (fun _=>True) v0_ r1∧Below w.heap.size w w':=by
 have hu53:=Tryz.underlying53
 have HR0:=yaa.mk hr0
 have HC0:=yaa.mk hc0
 clear hr0 hc0
 have HB:=yaa.mk (Below.refl w.heap.size w)
 have H:(ybh.l0 k a1 ([]:List (S53)) l0 (l0.length:Int) 0)=some (r1,r2):=h
 clear h
 have H':=yaa.mk H
 clear H
 go_enter Tryz.func66,Tryz.ntmps66
 go_wp2
 go_loopg [6,11] k (fun kq v6 v11 w'=>∃ (x6_1:List (S53)) (x11_1:Int),v11=.int .i64 x11_1∧yaa (ybh.l0 kq a1 x6_1 l0 (l0.length:Int) x11_1=some (r1,r2))∧yaa (kq≤k)∧yaa (Kd.S k53 53 w' w.heap.size (fun _=>True) v6 x6_1)∧yaa (Below w.heap.size w w'))
 case atStart=>exact⟨(([]:List (S53))),(0),zF,H',⟨Nat.le_refl _⟩,⟨by first|exact Kd.S_nil _ _ _ _ _|exact Kd.N_nil _ _ _ _ _|exact Kd.V_nil _ _ _ _ _|exact Kd.Q_nil _ _ _ _ _|exact Kd.R_nil _ _ _ _ _⟩,⟨zB⟩⟩
 case round =>
  clear H'
  try clear p2
  obtain⟨x6_1,x11_1,rfl,HA,HK1,HO_6,HB⟩:=hrel
  cases gk with
  | zero=>exact absurd HA.out (by simp [ybh.l0])
  | succ k1 =>
   have H:=HA.out
   clear HA
   simp only[ybh.l0] at H
   by_cases c3:x11_1<(l0.length:Int)
   ·rw[if_pos c3] at H
    have c3b0:=decide_eq_true c3
    clear c3
    by_cases c4:0≤x11_1
    ·rw[if_pos c4] at H
     have c4b0:=decide_eq_true c4
     clear c4
     by_cases c5:x11_1<(l0.length:Int)
     ·rw[if_pos c5] at H
      have c5b0:=decide_eq_true c5
      clear c5
      by_cases c6:x6_1.length<3518437208883
      ·rw[if_pos c6] at H
       have LMc6:=yaa.mk c6
       clear c6
       obtain⟨y484,hy484⟩:∃ y_:List (S53),y_=(x6_1++[(⟨false,rd l0 x11_1,([]:List Int)⟩:S53)]):=⟨_,rfl⟩
       replace H:(ybh.l0 k1 a1 y484 l0 (l0.length:Int) (wrap64 (x11_1+1)))=some (r1,r2):=by first|(rw[hy484];with_reducible exact H)|(have H2_:=(Option.bind_some _ _).symm.trans H;rw[hy484];with_reducible exact H2_)|(have H2_:=(Option.bind_some _ _).symm.trans H;with_reducible exact H2_)|with_reducible exact H|(rw[hy484];exact H)|exact H
       have Ny484:=yaa.mk hy484
       clear hy484
       have H':=yaa.mk H
       clear H
       have p483:0≤(x11_1:Int):=of_decide_eq_true zA
       have q483:x11_1<(l0.length:Int):=of_decide_eq_true zA
       obtain⟨ad483,e483,hx483_0⟩:=Kd.at_int HR0.out x11_1 p483 q483
       cases e483
       replace hx483_0:=(HB.out.cell (World.block_lt_of_cell? w _ hx483_0)).trans hx483_0
       replace p483:=eq_true p483
       replace q483:=eq_true q483
       go_wp2_with (first|((with_reducible refine ybm (b:=.append) (xs:=#[.tmp 15,.tmp 18]) rfl ?_);at_builtin;refine Kd.S_append k53 (w0:=w) w.heap.size rfl (.tmp 15) (.tmp 18) 22 53 (.agg #[(.bool false),(.int .i64 0),(.slice none 0 0)]) 40 rfl Tryz.underlying22 ygj rfl (by decide) (by omega) u6 x6_1 (⟨false,rd l0 x11_1,([]:List Int)⟩:S53) [.bool false,.int .i64 (rd l0 x11_1),.slice none 0 0] (fun _=>True) (fun _=>False) rfl rfl ?aP (fun k_ hk_=>hk_.elim) ?aF ?aO ?aB ?aS ?aL ?_;(case aP=>exact yml _ _ _ (⟨false,rd l0 x11_1,([]:List Int)⟩:S53) (Kd.R_nil _ _ _ _ _));(case aB=>exact zB);(case aF=>exact fun _ _=>trivial);(case aO=>exact(by (with_reducible repeat (first|apply Kd.S_alloc|apply Kd.S_drewN|apply Kd.S_drew));exact Kd.S_mono HO_6.out (fun k_ hk=>⟨trivial,fun e_=>e_⟩)));(case aS=>exact(yaf zB));(case aL=>have:=LMc6.out;omega);intro v485 w7 ho hb hg hat;rw[← Ny484.out] at ho;have n0_:=yaa.mk (hb);have n1_:=yaa.mk (ho);clear HB;clear HO_6;have HB:=n0_;have HO486:=n1_;clear n0_ n1_;clear ho hb hg hat))
       go_roundg k1
       case measure=>have:=HK1.out;omega
       case rel=>exact⟨(y484),(wrap64 (x11_1+1)),zF,H',⟨by have:=HK1.out;omega⟩,⟨zS HO486.out⟩,⟨zB⟩⟩
      ·rw[if_neg c6] at H
       exact absurd H (by simp)
     ·rw[if_neg c5] at H
      exact absurd H (by simp)
    ·rw[if_neg c4] at H
     exact absurd H (by simp)
   ·rw[if_neg c3] at H
    have c3b0:=decide_eq_false c3
    clear c3
    simp only[Option.some.injEq,Prod.mk.injEq] at H
    obtain⟨rfl,rfl⟩:=H
    go_wp2
    go_ret2
    exact⟨_,zG,zS HO_6.out,zB⟩
def ya5.l0:Nat→List Int→Int→Int→Int→Option (Int)
 | 0,_,_,_,_=>none
 | k+1,x0,x1,x7,x8=>if x8<x7 then (if 0≤x8 then (if x8<(x0.length:Int) then (if x1=(rd x0 x8) then (some x8) else (ya5.l0 k x0 x1 x7 (wrap64 (x8+1)))) else (none)) else (none)) else (some (-1))
def ya5.f (k:Nat) (l0:List Int) (a1:Int):Option (Int):=ya5.l0 k l0 a1 (l0.length:Int) 0
theorem ya5.calls (k:Nat) (A0:Option Addr) (c0:Nat) (l0:List Int) (a1:Int) (r:Int) (w:World) (hr0:Kd.C (Kd.int .u64) w A0 l0.length l0) (hc0:l0.length≤c0) (h:ya5.f k l0 a1=some r) :
  Calls Tryz.prog 145 #[.slice A0 l0.length c0,.int .u64 a1] w fun e w'=>e=.returned (.int .i64 r)∧yap w w':=by
 have HR0:=yaa.mk hr0
 have HC0:=yaa.mk hc0
 clear hr0 hc0
 have H:(ya5.l0 k l0 a1 (l0.length:Int) 0)=some r:=h
 clear h
 have H':=yaa.mk H
 clear H
 go_enter Tryz.func145,Tryz.ntmps145
 go_wp2
 go_loopg [8] k (fun kq v8 w'=>∃ (x8_1:Int),v8=.int .i64 x8_1∧yaa (ya5.l0 kq l0 a1 (l0.length:Int) x8_1=some r)∧yaa (kq≤k)∧yap w w')
 case atStart=>exact⟨(0),zF,H',⟨Nat.le_refl _⟩,zD⟩
 case round =>
  clear H'
  try clear c1
  try clear p2
  obtain⟨x8_1,rfl,HA,HK1,⟨m1,rfl⟩⟩:=hrel
  cases gk with
  | zero=>exact absurd HA.out (by simp [ya5.l0])
  | succ k1 =>
   have H:=HA.out
   clear HA
   simp only[ya5.l0] at H
   by_cases c3:x8_1<(l0.length:Int)
   ·rw[if_pos c3] at H
    have c3b0:=decide_eq_true c3
    clear c3
    by_cases c4:0≤x8_1
    ·rw[if_pos c4] at H
     have c4b0:=decide_eq_true c4
     clear c4
     by_cases c5:x8_1<(l0.length:Int)
     ·rw[if_pos c5] at H
      have c5b0:=decide_eq_true c5
      clear c5
      by_cases c6:a1=(rd l0 x8_1)
      ·rw[if_pos c6] at H
       have c6b0:(a1 == (rd l0 x8_1))=true:=beq_iff_eq.mpr c6
       have c6b1:(a1 != (rd l0 x8_1))=false:=bne_eq_false_iff_eq.mpr c6
       clear c6
       obtain rfl:=Option.some.inj H
       have p499:0≤(x8_1:Int):=of_decide_eq_true zA
       have q499:x8_1<(l0.length:Int):=of_decide_eq_true zA
       obtain⟨ad499,e499,hx499_0⟩:=Kd.at_int HR0.out x8_1 p499 q499
       cases e499
       replace p499:=eq_true p499
       replace q499:=eq_true q499
       go_wp2
       go_ret
       exact⟨zF,zD⟩
      ·rw[if_neg c6] at H
       have c6b0:(a1 == (rd l0 x8_1))=false:=beq_eq_false_iff_ne.mpr c6
       have c6b1:(a1 != (rd l0 x8_1))=true:=bne_iff_ne.mpr c6
       have H':=yaa.mk H
       clear H
       have p499:0≤(x8_1:Int):=of_decide_eq_true zA
       have q499:x8_1<(l0.length:Int):=of_decide_eq_true zA
       obtain⟨ad499,e499,hx499_0⟩:=Kd.at_int HR0.out x8_1 p499 q499
       cases e499
       replace p499:=eq_true p499
       replace q499:=eq_true q499
       go_wp2
       go_roundg k1
       case measure=>have:=HK1.out;omega
       case rel=>exact⟨(wrap64 (x8_1+1)),zF,H',⟨by have:=HK1.out;omega⟩,zD⟩
     ·rw[if_neg c5] at H
      exact absurd H (by simp)
    ·rw[if_neg c4] at H
     exact absurd H (by simp)
   ·rw[if_neg c3] at H
    have c3b0:=decide_eq_false c3
    clear c3
    obtain rfl:=Option.some.inj H
    go_wp2
    go_ret
    exact⟨zF,zD⟩
def yd3.f (k:Nat) (l0:List Int) (a1:Int):Option (Bool):=(ya5.f k l0 a1).bind fun t500=>(some (decide (t500≥0)))
theorem yd3.calls (k:Nat) (A0:Option Addr) (c0:Nat) (l0:List Int) (a1:Int) (r:Bool) (w:World) (hr0:Kd.C (Kd.int .u64) w A0 l0.length l0) (hc0:l0.length≤c0) (h:yd3.f k l0 a1=some r) :
  Calls Tryz.prog 136 #[.slice A0 l0.length c0,.int .u64 a1] w fun e w'=>e=.returned (.bool r)∧yap w w':=by
 have HR0:=yaa.mk hr0
 have HC0:=yaa.mk hc0
 clear hr0 hc0
 have H:((ya5.f k l0 a1).bind fun t500=>(some (decide (t500≥0))))=some r:=h
 clear h
 replace H:=Option.bind_eq_some_iff.mp H
 obtain⟨t500,A30,H⟩:=H
 try dsimp only at H
 have A3:=yaa.mk A30
 clear A30
 obtain rfl:=Option.some.inj H
 go_enter Tryz.func136,Tryz.ntmps136
 go_wp2_with (first|((with_reducible refine yad (f:=145) rfl ?_);refine yak (some 7) rfl rfl Tryz.func145 (by kernel_rfl) rfl #[.slice A0 l0.length c0,.int .u64 a1] rfl zE ?_;(with_reducible refine(ya5.calls k _ _ l0 a1 t500 _ ?side1 ?side2 A3.out).mono ?_);(case side1=>exact zC HR0.out);(case side2=>exact HC0.out);rintro e w' ⟨rfl,⟨nd,rfl⟩⟩;refine⟨_,rfl,?_⟩))
 go_ret
 exact⟨zF,zD⟩
def ybc.l0:Nat→List Bool→Bool→Int→Int→Option (Int)
 | 0,_,_,_,_=>none
 | k+1,x0,x1,x7,x8=>if x8<x7 then (if 0≤x8 then (if x8<(x0.length:Int) then (if (x1 == (rdOf false x0 x8))=true then (some x8) else (ybc.l0 k x0 x1 x7 (wrap64 (x8+1)))) else (none)) else (none)) else (some (-1))
def ybc.f (k:Nat) (l0:List Bool) (a1:Bool):Option (Int):=ybc.l0 k l0 a1 (l0.length:Int) 0
theorem ybc.calls (k:Nat) (A0:Option Addr) (c0:Nat) (l0:List Bool) (a1:Bool) (r:Int) (w:World) (hr0:Kd.C Kd.bool w A0 l0.length l0) (hc0:l0.length≤c0) (h:ybc.f k l0 a1=some r) :
  Calls Tryz.prog 147 #[.slice A0 l0.length c0,.bool a1] w fun e w'=>e=.returned (.int .i64 r)∧yap w w':=by
 have HR0:=yaa.mk hr0
 have HC0:=yaa.mk hc0
 clear hr0 hc0
 have H:(ybc.l0 k l0 a1 (l0.length:Int) 0)=some r:=h
 clear h
 have H':=yaa.mk H
 clear H
 go_enter Tryz.func147,Tryz.ntmps147
 go_wp2
 go_loopg [8] k (fun kq v8 w'=>∃ (x8_1:Int),v8=.int .i64 x8_1∧yaa (ybc.l0 kq l0 a1 (l0.length:Int) x8_1=some r)∧yaa (kq≤k)∧yap w w')
 case atStart=>exact⟨(0),zF,H',⟨Nat.le_refl _⟩,zD⟩
 case round =>
  clear H'
  try clear c1
  try clear p2
  obtain⟨x8_1,rfl,HA,HK1,⟨m1,rfl⟩⟩:=hrel
  cases gk with
  | zero=>exact absurd HA.out (by simp [ybc.l0])
  | succ k1 =>
   have H:=HA.out
   clear HA
   simp only[ybc.l0] at H
   by_cases c3:x8_1<(l0.length:Int)
   ·rw[if_pos c3] at H
    have c3b0:=decide_eq_true c3
    clear c3
    by_cases c4:0≤x8_1
    ·rw[if_pos c4] at H
     have c4b0:=decide_eq_true c4
     clear c4
     by_cases c5:x8_1<(l0.length:Int)
     ·rw[if_pos c5] at H
      have c5b0:=decide_eq_true c5
      clear c5
      by_cases c6:(a1 == (rdOf false l0 x8_1))=true
      ·rw[if_pos c6] at H
       have c6b0:(a1 == (rdOf false l0 x8_1))=true:=c6
       (try (have c6b1:decide (a1=(rdOf false l0 x8_1))=true:=by simpa using c6))
       (try (have c6b2:(a1 == (rdOf false l0 x8_1))=true:=by simpa using c6))
       clear c6
       obtain rfl:=Option.some.inj H
       have p531:0≤(x8_1:Int):=of_decide_eq_true zA
       have q531:x8_1<(l0.length:Int):=of_decide_eq_true zA
       obtain⟨ad531,e531,hx531_0⟩:=Kd.at_bool HR0.out x8_1 p531 q531
       cases e531
       replace p531:=eq_true p531
       replace q531:=eq_true q531
       go_wp2
       go_ret
       exact⟨zF,zD⟩
      ·rw[if_neg c6] at H
       have c6b0:(a1 == (rdOf false l0 x8_1))=false:=by simpa using c6
       (try (have c6b1:decide (a1=(rdOf false l0 x8_1))=false:=by simpa using c6))
       (try (have c6b2:(a1 == (rdOf false l0 x8_1))=false:=by simpa using c6))
       (try (have c6b3:¬ (a1=(rdOf false l0 x8_1)):=by simpa using c6))
       clear c6
       have H':=yaa.mk H
       clear H
       have p531:0≤(x8_1:Int):=of_decide_eq_true zA
       have q531:x8_1<(l0.length:Int):=of_decide_eq_true zA
       obtain⟨ad531,e531,hx531_0⟩:=Kd.at_bool HR0.out x8_1 p531 q531
       cases e531
       replace p531:=eq_true p531
       replace q531:=eq_true q531
       go_wp2
       go_roundg k1
       case measure=>have:=HK1.out;omega
       case rel=>exact⟨(wrap64 (x8_1+1)),zF,H',⟨by have:=HK1.out;omega⟩,zD⟩
     ·rw[if_neg c5] at H
      exact absurd H (by simp)
    ·rw[if_neg c4] at H
     exact absurd H (by simp)
   ·rw[if_neg c3] at H
    have c3b0:=decide_eq_false c3
    clear c3
    obtain rfl:=Option.some.inj H
    go_wp2
    go_ret
    exact⟨zF,zD⟩
def yd2.f (k:Nat) (l0:List Bool) (a1:Bool):Option (Bool):=(ybc.f k l0 a1).bind fun t532=>(some (decide (t532≥0)))
theorem yd2.calls (k:Nat) (A0:Option Addr) (c0:Nat) (l0:List Bool) (a1:Bool) (r:Bool) (w:World) (hr0:Kd.C Kd.bool w A0 l0.length l0) (hc0:l0.length≤c0) (h:yd2.f k l0 a1=some r) :
  Calls Tryz.prog 138 #[.slice A0 l0.length c0,.bool a1] w fun e w'=>e=.returned (.bool r)∧yap w w':=by
 have HR0:=yaa.mk hr0
 have HC0:=yaa.mk hc0
 clear hr0 hc0
 have H:((ybc.f k l0 a1).bind fun t532=>(some (decide (t532≥0))))=some r:=h
 clear h
 replace H:=Option.bind_eq_some_iff.mp H
 obtain⟨t532,A30,H⟩:=H
 try dsimp only at H
 have A3:=yaa.mk A30
 clear A30
 obtain rfl:=Option.some.inj H
 go_enter Tryz.func138,Tryz.ntmps138
 go_wp2_with (first|((with_reducible refine yad (f:=147) rfl ?_);refine yak (some 7) rfl rfl Tryz.func147 (by kernel_rfl) rfl #[.slice A0 l0.length c0,.bool a1] rfl zE ?_;(with_reducible refine(ybc.calls k _ _ l0 a1 t532 _ ?side1 ?side2 A3.out).mono ?_);(case side1=>exact zC HR0.out);(case side2=>exact HC0.out);rintro e w' ⟨rfl,⟨nd,rfl⟩⟩;refine⟨_,rfl,?_⟩))
 go_ret
 exact⟨zF,zD⟩
mutual
def yaz.l0:Nat→List Int→List Int→List Int→Int→Option (List Int)
 | 0,_,_,_,_=>none
 | k+1,x0,x1,x5,x6=>if x6<(x0.length:Int) then (if 0≤x6 then (if x5.length<140737488355328 then (yaz.l0 k x0 x1 (x5++[rd x0 x6]) (wrap64 (x6+1))) else (none)) else (none)) else (yaz.l1 k x1 x5 0)
def yaz.l1:Nat→List Int→List Int→Int→Option (List Int)
 | 0,_,_,_=>none
 | k+1,x1,x5,x7=>if x7<(x1.length:Int) then (if 0≤x7 then (if x5.length<140737488355328 then (yaz.l1 k x1 (x5++[rd x1 x7]) (wrap64 (x7+1))) else (none)) else (none)) else (some x5)
end
def yaz.f (k:Nat) (l0:List Int) (l1:List Int):Option (List Int):=yaz.l0 k l0 l1 (([]:List Int)) 0
theorem yaz.calls (k:Nat) (A0:Option Addr) (c0:Nat) (l0:List Int) (A1:Option Addr) (c1:Nat) (l1:List Int) (r:List Int) (w:World) (hr0:Kd.C (Kd.int .u8) w A0 l0.length l0) (hc0:l0.length≤c0) (hr1:Kd.C (Kd.int .u8) w A1 l1.length l1) (hc1:l1.length≤c1) (h:yaz.f k l0 l1=some r) :
  Calls Tryz.prog 47 #[.slice A0 l0.length c0,.slice A1 l1.length c1] w fun e w'=>∃ v0_:Value,e=.returned (v0_)∧Kd.R (Kd.int .u8) 5 w' w.heap.size (fun _=>True) v0_ r∧Below w.heap.size w w':=by
 have HR0:=yaa.mk hr0
 have HC0:=yaa.mk hc0
 clear hr0 hc0
 have HR1:=yaa.mk hr1
 have HC1:=yaa.mk hc1
 clear hr1 hc1
 have HB:=yaa.mk (Below.refl w.heap.size w)
 have H:(yaz.l0 k l0 l1 (([]:List Int)) 0)=some r:=h
 clear h
 obtain⟨y556,hy556⟩:∃ y_:List Int,y_=(([]:List Int)):=⟨_,rfl⟩
 replace H:(yaz.l0 k l0 l1 y556 0)=some r:=by first|(rw[hy556];with_reducible exact H)|(have H2_:=(Option.bind_some _ _).symm.trans H;rw[hy556];with_reducible exact H2_)|(have H2_:=(Option.bind_some _ _).symm.trans H;with_reducible exact H2_)|with_reducible exact H|(rw[hy556];exact H)|exact H
 have Ny556:=yaa.mk hy556
 clear hy556
 have H':=yaa.mk H
 clear H
 go_enter Tryz.func47,Tryz.ntmps47
 go_wp2_with (first|((with_reducible refine yb1 (N:=8) rfl ?_);refine Kd.R_lit (Kd.int .u8) _ 5 ?hg (N:=8) ?hd (xs:=([]:List Int)) (inner:=[]) (ok:=fun _=>True) (okp:=fun _=>True) ?hr ?hp (fun _ hk=>hk) trivial (Below.refl _ _) (Nat.le_refl _) (by simp) ?_;(case hd=>rfl);(case hg=>rfl);(case hr=>first|(go_simp;done)|(go_simp;rfl));(case hp=>exact(Reps.none _ _));intro v557 w3 ho4 hb hg_ hnew_;clear hg_ hnew_;(first|rw[← Ny556.out] at ho4|(simp only[Int.reduceToNat] at ho4;rw[← Ny556.out] at ho4));have n0_:=yaa.mk (Kd.R_lower ho4 (yaf zB));have n1_:=yaa.mk (yai zB hb);clear HB;have HO558:=n0_;have HB:=n1_;clear n0_ n1_;clear hb ho4))
 go_loopg [5,6] k (fun kq v5 v6 w'=>∃ (x5_1:List Int) (x6_1:Int),v6=.int .i64 x6_1∧yaa (yaz.l0 kq l0 l1 x5_1 x6_1=some r)∧yaa (kq≤k)∧yaa (Kd.R (Kd.int .u8) 5 w' w.heap.size (fun _=>True) v5 x5_1)∧yaa (Below w.heap.size w w'))
 case atStart=>exact⟨(y556),(0),zF,H',⟨Nat.le_refl _⟩,⟨zR HO558.out⟩,⟨zB⟩⟩
 case round =>
  clear H'
  try clear c1
  try clear p2
  try clear c4
  obtain⟨x5_1,x6_1,rfl,HA,HK1,HO_5,HB⟩:=hrel
  cases gk with
  | zero=>exact absurd HA.out (by simp [yaz.l0])
  | succ k1 =>
   have H:=HA.out
   clear HA
   simp only[yaz.l0] at H
   by_cases c5:x6_1<(l0.length:Int)
   ·rw[if_pos c5] at H
    have c5b0:=decide_eq_true c5
    clear c5
    by_cases c6:0≤x6_1
    ·rw[if_pos c6] at H
     have c6b0:=decide_eq_true c6
     clear c6
     by_cases c7:x5_1.length<140737488355328
     ·rw[if_pos c7] at H
      have LMc7:=yaa.mk c7
      clear c7
      obtain⟨y560,hy560⟩:∃ y_:List Int,y_=(x5_1++[rd l0 x6_1]):=⟨_,rfl⟩
      replace H:(yaz.l0 k1 l0 l1 y560 (wrap64 (x6_1+1)))=some r:=by first|(rw[hy560];with_reducible exact H)|(have H2_:=(Option.bind_some _ _).symm.trans H;rw[hy560];with_reducible exact H2_)|(have H2_:=(Option.bind_some _ _).symm.trans H;with_reducible exact H2_)|with_reducible exact H|(rw[hy560];exact H)|exact H
      have Ny560:=yaa.mk hy560
      clear hy560
      have H':=yaa.mk H
      clear H
      have p559:0≤(x6_1:Int):=of_decide_eq_true zA
      have q559:x6_1<(l0.length:Int):=of_decide_eq_true zA
      obtain⟨ad559,e559,hx559_0⟩:=Kd.at_int HR0.out x6_1 p559 q559
      cases e559
      replace hx559_0:=(HB.out.cell (World.block_lt_of_cell? w _ hx559_0)).trans hx559_0
      replace p559:=eq_true p559
      replace q559:=eq_true q559
      go_wp2_with (first|((with_reducible refine ybm (b:=.append) (xs:=#[.tmp 15,.tmp 20]) rfl ?_);at_builtin;refine Kd.R_append (Kd.int .u8) (w0:=w) w.heap.size rfl (.tmp 15) (.tmp 20) 25 5 (.int .u8 0) 1 rfl Tryz.underlying25 ycj rfl (by decide) (by omega) u5 x5_1 (rd l0 x6_1) [.int .u8 (rd l0 x6_1)] (fun _=>True) (fun _=>False) rfl rfl ?aP (fun _ hk=>hk.elim) ?aF ?aO ?aB ?aS ?aL ?_;(case aP=>exact rfl);(case aB=>exact zB);(case aF=>exact fun _ _=>trivial);(case aO=>exact(zR HO_5.out));(case aS=>exact(yaf zB));(case aL=>have:=LMc7.out;omega);intro v561 w8 ho hb hg hat;rw[← Ny560.out] at ho;have n0_:=yaa.mk (hb);have n1_:=yaa.mk (ho);clear HB;clear HO_5;have HB:=n0_;have HO562:=n1_;clear n0_ n1_;clear ho hb hg hat))
      go_roundg k1
      case measure=>have:=HK1.out;omega
      case rel=>exact⟨(y560),(wrap64 (x6_1+1)),zF,H',⟨by have:=HK1.out;omega⟩,⟨zR HO562.out⟩,⟨zB⟩⟩
     ·rw[if_neg c7] at H
      exact absurd H (by simp)
    ·rw[if_neg c6] at H
     exact absurd H (by simp)
   ·rw[if_neg c5] at H
    have c5b0:=decide_eq_false c5
    clear c5
    have H':=yaa.mk H
    clear H
    go_wp2
    go_loopg [5,7] k1 (fun kq v5 v7 w'=>∃ (x5_2:List Int) (x7_2:Int),v7=.int .i64 x7_2∧yaa (yaz.l1 kq l1 x5_2 x7_2=some r)∧yaa (kq≤k1)∧yaa (Kd.R (Kd.int .u8) 5 w' w.heap.size (fun _=>True) v5 x5_2)∧yaa (Below w.heap.size w w'))
    case atStart=>exact⟨(x5_1),(0),zF,H',⟨Nat.le_refl _⟩,⟨zR HO_5.out⟩,⟨zB⟩⟩
    case round =>
     clear H'
     try clear c1
     try clear p2
     try clear c4
     try clear c5
     try clear c5b0
     try clear p5
     try clear q5
     try clear hx5
     try clear c6
     try clear c6b0
     try clear p6
     try clear c7
     try clear hx559_0
     try clear p2
     try clear p559
     try clear q559
     obtain⟨x5_2,x7_2,rfl,HA,HK2,HO_5,HB⟩:=hrel
     cases gk with
     | zero=>exact absurd HA.out (by simp [yaz.l1])
     | succ k2 =>
      have H:=HA.out
      clear HA
      simp only[yaz.l1] at H
      by_cases c9:x7_2<(l1.length:Int)
      ·rw[if_pos c9] at H
       have c9b0:=decide_eq_true c9
       clear c9
       by_cases c10:0≤x7_2
       ·rw[if_pos c10] at H
        have c10b0:=decide_eq_true c10
        clear c10
        by_cases c11:x5_2.length<140737488355328
        ·rw[if_pos c11] at H
         have LMc11:=yaa.mk c11
         clear c11
         obtain⟨y564,hy564⟩:∃ y_:List Int,y_=(x5_2++[rd l1 x7_2]):=⟨_,rfl⟩
         replace H:(yaz.l1 k2 l1 y564 (wrap64 (x7_2+1)))=some r:=by first|(rw[hy564];with_reducible exact H)|(have H2_:=(Option.bind_some _ _).symm.trans H;rw[hy564];with_reducible exact H2_)|(have H2_:=(Option.bind_some _ _).symm.trans H;with_reducible exact H2_)|with_reducible exact H|(rw[hy564];exact H)|exact H
         have Ny564:=yaa.mk hy564
         clear hy564
         have H':=yaa.mk H
         clear H
         have p563:0≤(x7_2:Int):=of_decide_eq_true zA
         have q563:x7_2<(l1.length:Int):=of_decide_eq_true zA
         obtain⟨ad563,e563,hx563_0⟩:=Kd.at_int HR1.out x7_2 p563 q563
         cases e563
         replace hx563_0:=(HB.out.cell (World.block_lt_of_cell? w _ hx563_0)).trans hx563_0
         replace p563:=eq_true p563
         replace q563:=eq_true q563
         go_wp2_with (first|((with_reducible refine ybm (b:=.append) (xs:=#[.tmp 28,.tmp 33]) rfl ?_);at_builtin;refine Kd.R_append (Kd.int .u8) (w0:=w) w.heap.size rfl (.tmp 28) (.tmp 33) 25 5 (.int .u8 0) 1 rfl Tryz.underlying25 ycj rfl (by decide) (by omega) u5 x5_2 (rd l1 x7_2) [.int .u8 (rd l1 x7_2)] (fun _=>True) (fun _=>False) rfl rfl ?aP (fun _ hk=>hk.elim) ?aF ?aO ?aB ?aS ?aL ?_;(case aP=>exact rfl);(case aB=>exact zB);(case aF=>exact fun _ _=>trivial);(case aO=>exact(zR HO_5.out));(case aS=>exact(yaf zB));(case aL=>have:=LMc11.out;omega);intro v565 w12 ho hb hg hat;rw[← Ny564.out] at ho;have n0_:=yaa.mk (hb);have n1_:=yaa.mk (ho);clear HB;clear HO_5;have HB:=n0_;have HO566:=n1_;clear n0_ n1_;clear ho hb hg hat))
         go_roundg k2
         case measure=>have:=HK1.out;have:=HK2.out;omega
         case rel=>exact⟨(y564),(wrap64 (x7_2+1)),zF,H',⟨by have:=HK1.out;have:=HK2.out;omega⟩,⟨zR HO566.out⟩,⟨zB⟩⟩
        ·rw[if_neg c11] at H
         exact absurd H (by simp)
       ·rw[if_neg c10] at H
        exact absurd H (by simp)
      ·rw[if_neg c9] at H
       have c9b0:=decide_eq_false c9
       clear c9
       obtain rfl:=Option.some.inj H
       go_wp2
       go_ret
       exact⟨_,zG,zR HO_5.out,zB⟩
def ybx.l0:Nat→Int→Int→List Int→Int→Option (List Int)
 | 0,_,_,_,_=>none
 | k+1,x0,x1,x5,x6=>if x6<x1 then (if x5.length<140737488355328 then (ybx.l0 k (IntKind.u64.wrap (Int.tdiv x0 256)) x1 (x5++[(Int.tmod x0 256)%256]) (wrap64 (x6+1))) else (none)) else (some x5)
def ybx.f (k:Nat) (a0:Int) (a1:Int):Option (List Int):=ybx.l0 k a0 a1 (([]:List Int)) 0
theorem ybx.calls (k:Nat) (a0:Int) (a1:Int) (r:List Int) (w:World) (h:ybx.f k a0 a1=some r) :
  Calls Tryz.prog 48 #[.int .u64 a0,.int .i64 a1] w fun e w'=>∃ v0_:Value,e=.returned (v0_)∧Kd.R (Kd.int .u8) 5 w' w.heap.size (fun _=>True) v0_ r∧Below w.heap.size w w':=by
 have HB:=yaa.mk (Below.refl w.heap.size w)
 have H:(ybx.l0 k a0 a1 (([]:List Int)) 0)=some r:=h
 clear h
 obtain⟨y567,hy567⟩:∃ y_:List Int,y_=(([]:List Int)):=⟨_,rfl⟩
 replace H:(ybx.l0 k a0 a1 y567 0)=some r:=by first|(rw[hy567];with_reducible exact H)|(have H2_:=(Option.bind_some _ _).symm.trans H;rw[hy567];with_reducible exact H2_)|(have H2_:=(Option.bind_some _ _).symm.trans H;with_reducible exact H2_)|with_reducible exact H|(rw[hy567];exact H)|exact H
 have Ny567:=yaa.mk hy567
 clear hy567
 have H':=yaa.mk H
 clear H
 go_enter Tryz.func48,Tryz.ntmps48
 go_wp2_with (first|((with_reducible refine yb1 (N:=7) rfl ?_);refine Kd.R_lit (Kd.int .u8) _ 5 ?hg (N:=7) ?hd (xs:=([]:List Int)) (inner:=[]) (ok:=fun _=>True) (okp:=fun _=>True) ?hr ?hp (fun _ hk=>hk) trivial (Below.refl _ _) (Nat.le_refl _) (by simp) ?_;(case hd=>rfl);(case hg=>rfl);(case hr=>first|(go_simp;done)|(go_simp;rfl));(case hp=>exact(Reps.none _ _));intro v568 w3 ho4 hb hg_ hnew_;clear hg_ hnew_;(first|rw[← Ny567.out] at ho4|(simp only[Int.reduceToNat] at ho4;rw[← Ny567.out] at ho4));have n0_:=yaa.mk (Kd.R_lower ho4 (yaf zB));have n1_:=yaa.mk (yai zB hb);clear HB;have HO569:=n0_;have HB:=n1_;clear n0_ n1_;clear hb ho4))
 go_loopg [0,5,6] k (fun kq v0 v5 v6 w'=>∃ (x0_1:Int) (x5_1:List Int) (x6_1:Int),v0=.int .u64 x0_1∧v6=.int .i64 x6_1∧yaa (ybx.l0 kq x0_1 a1 x5_1 x6_1=some r)∧yaa (kq≤k)∧yaa (Kd.R (Kd.int .u8) 5 w' w.heap.size (fun _=>True) v5 x5_1)∧yaa (Below w.heap.size w w'))
 case atStart=>exact⟨(a0),(y567),(0),zF,zF,H',⟨Nat.le_refl _⟩,⟨zR HO569.out⟩,⟨zB⟩⟩
 case round =>
  clear H'
  try clear p2
  try clear c4
  obtain⟨x0_1,x5_1,x6_1,rfl,rfl,HA,HK1,HO_5,HB⟩:=hrel
  cases gk with
  | zero=>exact absurd HA.out (by simp [ybx.l0])
  | succ k1 =>
   have H:=HA.out
   clear HA
   simp only[ybx.l0] at H
   by_cases c5:x6_1<a1
   ·rw[if_pos c5] at H
    have c5b0:=decide_eq_true c5
    clear c5
    by_cases c6:x5_1.length<140737488355328
    ·rw[if_pos c6] at H
     have LMc6:=yaa.mk c6
     clear c6
     obtain⟨y570,hy570⟩:∃ y_:List Int,y_=(x5_1++[(Int.tmod x0_1 256)%256]):=⟨_,rfl⟩
     replace H:(ybx.l0 k1 (IntKind.u64.wrap (Int.tdiv x0_1 256)) a1 y570 (wrap64 (x6_1+1)))=some r:=by first|(rw[hy570];with_reducible exact H)|(have H2_:=(Option.bind_some _ _).symm.trans H;rw[hy570];with_reducible exact H2_)|(have H2_:=(Option.bind_some _ _).symm.trans H;with_reducible exact H2_)|with_reducible exact H|(rw[hy570];exact H)|exact H
     have Ny570:=yaa.mk hy570
     clear hy570
     have H':=yaa.mk H
     clear H
     go_wp2_with (first|((with_reducible refine ybm (b:=.append) (xs:=#[.tmp 13,.tmp 17]) rfl ?_);at_builtin;refine Kd.R_append (Kd.int .u8) (w0:=w) w.heap.size rfl (.tmp 13) (.tmp 17) 25 5 (.int .u8 0) 1 rfl Tryz.underlying25 ycj rfl (by decide) (by omega) u5 x5_1 ((Int.tmod x0_1 256)%256) [.int .u8 ((Int.tmod x0_1 256)%256)] (fun _=>True) (fun _=>False) rfl rfl ?aP (fun _ hk=>hk.elim) ?aF ?aO ?aB ?aS ?aL ?_;(case aP=>exact rfl);(case aB=>exact zB);(case aF=>exact fun _ _=>trivial);(case aO=>exact(zR HO_5.out));(case aS=>exact(yaf zB));(case aL=>have:=LMc6.out;omega);intro v571 w7 ho hb hg hat;rw[← Ny570.out] at ho;have n0_:=yaa.mk (hb);have n1_:=yaa.mk (ho);clear HB;clear HO_5;have HB:=n0_;have HO572:=n1_;clear n0_ n1_;clear ho hb hg hat))
     go_roundg k1
     case measure=>have:=HK1.out;omega
     case rel=>exact⟨(IntKind.u64.wrap (Int.tdiv x0_1 256)),(y570),(wrap64 (x6_1+1)),zF,zF,H',⟨by have:=HK1.out;omega⟩,⟨zR HO572.out⟩,⟨zB⟩⟩
    ·rw[if_neg c6] at H
     exact absurd H (by simp)
   ·rw[if_neg c5] at H
    have c5b0:=decide_eq_false c5
    clear c5
    obtain rfl:=Option.some.inj H
    go_wp2
    go_ret
    exact⟨_,zG,zR HO_5.out,zB⟩
mutual
def ya6.l0:Nat→List Int→Int→Int→Option (Int)
 | 0,_,_,_=>none
 | k+1,x0,x3,x4=>if x4<(x0.length:Int) then (if 0≤x4 then (ya6.l1 k x0 (Go.bits .xor .u32 x3 ((rd x0 x4)%4294967296)) x4 0) else (none)) else (some (Go.bits .xor .u32 x3 4294967295))
def ya6.l1:Nat→List Int→Int→Int→Int→Option (Int)
 | 0,_,_,_,_=>none
 | k+1,x0,x3,x4,x5=>if x5<8 then (if (Int.tmod x3 2)=1 then (ya6.l1 k x0 (Go.bits .xor .u32 ((Int.tdiv x3 2)%4294967296) 2197175160) x4 (wrap64 (x5+1))) else (ya6.l1 k x0 ((Int.tdiv x3 2)%4294967296) x4 (wrap64 (x5+1)))) else (ya6.l0 k x0 x3 (wrap64 (x4+1)))
end
def ya6.f (k:Nat) (l0:List Int):Option (Int):=ya6.l0 k l0 4294967295 0
theorem ya6.calls (k:Nat) (A0:Option Addr) (c0:Nat) (l0:List Int) (r:Int) (w:World) (hr0:Kd.C (Kd.int .u8) w A0 l0.length l0) (hc0:l0.length≤c0) (h:ya6.f k l0=some r) :
  Calls Tryz.prog 49 #[.slice A0 l0.length c0] w fun e w'=>e=.returned (.int .u32 r)∧yap w w':=by
 have HR0:=yaa.mk hr0
 have HC0:=yaa.mk hc0
 clear hr0 hc0
 have H:(ya6.l0 k l0 4294967295 0)=some r:=h
 clear h
 have H':=yaa.mk H
 clear H
 go_enter Tryz.func49,Tryz.ntmps49
 go_wp2
 go_loopg [3,4] k (fun kq v3 v4 w'=>∃ (x3_1:Int) (x4_1:Int),v3=.int .u32 x3_1∧v4=.int .i64 x4_1∧yaa (ya6.l0 kq l0 x3_1 x4_1=some r)∧yaa (kq≤k)∧yap w w')
 case atStart=>exact⟨(4294967295),(0),zF,zF,H',⟨Nat.le_refl _⟩,zD⟩
 case round =>
  clear H'
  obtain⟨x3_1,x4_1,rfl,rfl,HA,HK1,⟨m1,rfl⟩⟩:=hrel
  cases gk with
  | zero=>exact absurd HA.out (by simp [ya6.l0])
  | succ k1 =>
   have H:=HA.out
   clear HA
   simp only[ya6.l0] at H
   by_cases c2:x4_1<(l0.length:Int)
   ·rw[if_pos c2] at H
    have c2b0:=decide_eq_true c2
    clear c2
    by_cases c3:0≤x4_1
    ·rw[if_pos c3] at H
     have c3b0:=decide_eq_true c3
     clear c3
     have H':=yaa.mk H
     clear H
     have p573:0≤(x4_1:Int):=of_decide_eq_true zA
     have q573:x4_1<(l0.length:Int):=of_decide_eq_true zA
     obtain⟨ad573,e573,hx573_0⟩:=Kd.at_int HR0.out x4_1 p573 q573
     cases e573
     replace p573:=eq_true p573
     replace q573:=eq_true q573
     go_wp2
     go_loopg [3,5] k1 (fun kq v3 v5 w'=>∃ (x3_2:Int) (x5_2:Int),v3=.int .u32 x3_2∧v5=.int .i64 x5_2∧yaa (ya6.l1 kq l0 x3_2 x4_1 x5_2=some r)∧yaa (kq≤k1)∧yap w w')
     case atStart=>exact⟨(Go.bits .xor .u32 x3_1 ((rd l0 x4_1)%4294967296)),(0),zF,zF,H',⟨Nat.le_refl _⟩,zD⟩
     case round =>
      clear H'
      try clear c2
      try clear c2b0
      try clear p2
      try clear c3
      try clear c3b0
      try clear hx573_0
      try clear p573
      try clear q573
      obtain⟨x3_2,x5_2,rfl,rfl,HA,HK2,⟨m2,rfl⟩⟩:=hrel
      cases gk with
      | zero=>exact absurd HA.out (by simp [ya6.l1])
      | succ k2 =>
       have H:=HA.out
       clear HA
       simp only[ya6.l1] at H
       by_cases c4:x5_2<8
       ·rw[if_pos c4] at H
        have c4b0:=decide_eq_true c4
        clear c4
        by_cases c5:(Int.tmod x3_2 2)=1
        ·rw[if_pos c5] at H
         have c5b0:((Int.tmod x3_2 2) == 1)=true:=beq_iff_eq.mpr c5
         have c5b1:((Int.tmod x3_2 2) != 1)=false:=bne_eq_false_iff_eq.mpr c5
         clear c5
         have H':=yaa.mk H
         clear H
         go_wp2
         go_roundg k2
         case measure=>have:=HK1.out;have:=HK2.out;omega
         case rel=>exact⟨(Go.bits .xor .u32 ((Int.tdiv x3_2 2)%4294967296) 2197175160),(wrap64 (x5_2+1)),zF,zF,H',⟨by have:=HK1.out;have:=HK2.out;omega⟩,zD⟩
        ·rw[if_neg c5] at H
         have c5b0:((Int.tmod x3_2 2) == 1)=false:=beq_eq_false_iff_ne.mpr c5
         have c5b1:((Int.tmod x3_2 2) != 1)=true:=bne_iff_ne.mpr c5
         have H':=yaa.mk H
         clear H
         go_wp2
         go_roundg k2
         case measure=>have:=HK1.out;have:=HK2.out;omega
         case rel=>exact⟨((Int.tdiv x3_2 2)%4294967296),(wrap64 (x5_2+1)),zF,zF,H',⟨by have:=HK1.out;have:=HK2.out;omega⟩,zD⟩
       ·rw[if_neg c4] at H
        have c4b0:=decide_eq_false c4
        clear c4
        have H':=yaa.mk H
        clear H
        go_wp2
        go_roundg k2
        case measure=>have:=HK1.out;have:=HK2.out;omega
        case rel=>exact⟨(x3_2),(wrap64 (x4_1+1)),zF,zF,H',⟨by have:=HK1.out;have:=HK2.out;omega⟩,zD⟩
    ·rw[if_neg c3] at H
     exact absurd H (by simp)
   ·rw[if_neg c2] at H
    have c2b0:=decide_eq_false c2
    clear c2
    obtain rfl:=Option.some.inj H
    go_wp2
    go_ret
    exact⟨zF,zD⟩
end Go.Proofs.YteeikgjjgfdjgaaGreat.PK
end
section
namespace Go.Proofs.YteeikgjjgfdjgaaGreat.PK
open Go.RowKit YteeikgjjgfdjgaaGreatW.PrintWords YteeikgjjgfdjgaaGreatW.PrintLast YteeikgjjgfdjgaaGreatW.PrintMore
attribute [local go_sem] yce ycf ycu ycv yb8 yb7 ycm yco
set_option linter.unusedVariables false
set_option linter.unusedSimpArgs false
def yff.f (k:Nat) (l0:List Int):Option (List Int):=(ya6.f k l0).bind fun t574=>((ybx.f k (IntKind.u64.wrap (t574)) 4).bind fun t575=>((yaz.f k l0 t575).bind fun t578=>(some t578)))
theorem yff.calls (k:Nat) (A0:Option Addr) (c0:Nat) (l0:List Int) (r:List Int) (w:World) (hr0:Kd.C (Kd.int .u8) w A0 l0.length l0) (hc0:l0.length≤c0) (h:yff.f k l0=some r) :
  Calls Tryz.prog 26 #[.slice A0 l0.length c0] w fun e w'=>∃ v0_:Value,e=.returned (v0_)∧Kd.R (Kd.int .u8) 5 w' w.heap.size (fun _=>True) v0_ r∧Below w.heap.size w w':=by
 have HR0:=yaa.mk hr0
 have HC0:=yaa.mk hc0
 clear hr0 hc0
 have HB:=yaa.mk (Below.refl w.heap.size w)
 have H:((ya6.f k l0).bind fun t574=>((ybx.f k (IntKind.u64.wrap (t574)) 4).bind fun t575=>((yaz.f k l0 t575).bind fun t578=>(some t578))))=some r:=h
 clear h
 replace H:=Option.bind_eq_some_iff.mp H
 obtain⟨t574,A20,H⟩:=H
 try dsimp only at H
 have A2:=yaa.mk A20
 clear A20
 replace H:=Option.bind_eq_some_iff.mp H
 obtain⟨t575,A30,H⟩:=H
 try dsimp only at H
 have A3:=yaa.mk A30
 clear A30
 replace H:=Option.bind_eq_some_iff.mp H
 obtain⟨t578,A40,H⟩:=H
 try dsimp only at H
 have A4:=yaa.mk A40
 clear A40
 obtain rfl:=Option.some.inj H
 go_enter Tryz.func26,Tryz.ntmps26
 go_wp2_with (first|((with_reducible refine yad (f:=49) rfl ?_);refine yak (some 5) rfl rfl Tryz.func49 (by kernel_rfl) rfl #[.slice A0 l0.length c0] rfl zE ?_;(with_reducible refine(ya6.calls k _ _ l0 t574 _ ?side1 ?side2 A2.out).mono ?_);(case side1=>exact zC HR0.out);(case side2=>exact HC0.out);rintro e w' ⟨rfl,⟨nd,rfl⟩⟩;refine⟨_,rfl,?_⟩)|((with_reducible refine yad (f:=48) rfl ?_);refine yak (some 7) rfl rfl Tryz.func48 (by kernel_rfl) rfl #[.int .u64 (IntKind.u64.wrap (t574)),.int .i64 4] rfl zE ?_;(with_reducible refine(ybx.calls k (IntKind.u64.wrap (t574)) 4 t575 _ A3.out).mono ?_);rintro e w5 ⟨v576,rfl,ho0,hb⟩;refine⟨_,rfl,?_⟩;have n0_:=yaa.mk (Kd.R_lower ho0 (yaf zB));have n1_:=yaa.mk (yai zB hb);clear HB;have HO577:=n0_;have HB:=n1_;clear n0_ n1_;(try clear hb);(try clear hb2);(try clear hk);(try clear hi);(try clear ho0);obtain⟨Ao6,co6,eo6⟩:=Kd.R_slice HO577.out;subst eo6)|((with_reducible refine yad (f:=47) rfl ?_);refine yak (some 8) rfl rfl Tryz.func47 (by kernel_rfl) rfl #[.slice A0 l0.length c0,.slice Ao6 t575.length co6] rfl zE ?_;(with_reducible refine(yaz.calls k _ _ l0 _ _ t575 t578 _ ?side1 ?side2 ?side3 ?side4 A4.out).mono ?_);(case side1=>exact zC (Kd.C_below HR0.out HB.out));(case side2=>exact HC0.out);(case side3=>exact zC (Kd.R_reads' HO577.out).2.2);(case side4=>exact(Kd.R_reads' HO577.out).2.1);rintro e w7 ⟨v579,rfl,ho0,hb⟩;refine⟨_,rfl,?_⟩;have n0_:=yaa.mk (Kd.R_elder' (zR HO577.out) (Kd.R_base ho0) hb);have n1_:=yaa.mk (Kd.R_lower (Kd.R_new' ho0 (Kd.R_lt (zR HO577.out))) (yaf zB));have n2_:=yaa.mk (yai zB hb);clear HO577;clear HB;have HO577:=n0_;have HO580:=n1_;have HB:=n2_;clear n0_ n1_ n2_;(try clear hb);(try clear hb2);(try clear hk);(try clear hi);(try clear ho0)))
 go_ret
 exact⟨_,zG,by (with_reducible repeat (first|apply Kd.R_alloc|apply Kd.R_drewN|apply Kd.R_drew));exact Kd.R_mono HO580.out (fun _ hk=>trivial),zB⟩
def yay.l0:Nat→List Int→List Int→Int→Option (List Int)
 | 0,_,_,_=>none
 | k+1,x0,x3,x4=>if x4<(x0.length:Int) then (if 0≤x4 then (if x3.length<140737488355328 then (yay.l0 k x0 (x3++[rd x0 x4]) (wrap64 (x4+1))) else (none)) else (none)) else (some x3)
def yay.f (k:Nat) (l0:List Int):Option (List Int):=yay.l0 k l0 (([]:List Int)) 0
theorem yay.mono_l:∀ k,(∀ y0 y1 y2,LeO (yay.l0 k y0 y1 y2) (yay.l0 (k+1) y0 y1 y2))
 | 0=>fun _ _ _ r h=>by simp [yay.l0] at h
 | k+1=>by
  have ih0:=yay.mono_l k
  ·intro y0 y1 y2
   unfold yay.l0
   repeat' first
   | (with_reducible exact ih0 _ _ _)
   | (with_reducible exact LeO.refl _)
   | (with_reducible exact LeO.none _)
   | (with_reducible refine LeO.ite ?_ ?_)
   | (with_reducible refine LeO.bind ?_ (fun _=>?_))
theorem yay.mono:∀ a0 k,LeO (yay.f k a0) (yay.f (k+1) a0):=by
 intro a0 k
 have ih0:=yay.mono_l k
 unfold yay.f
 repeat' first
   | (with_reducible exact ih0 _ _ _)
   | (with_reducible exact LeO.refl _)
   | (with_reducible exact LeO.none _)
   | (with_reducible refine LeO.ite ?_ ?_)
   | (with_reducible refine LeO.bind ?_ (fun _=>?_))
theorem yay.calls (k:Nat) (A0:Option Addr) (c0:Nat) (l0:List Int) (r:List Int) (w:World) (hr0:Kd.C (Kd.int .u8) w A0 l0.length l0) (hc0:l0.length≤c0) (h:yay.f k l0=some r) :
  Calls Tryz.prog 24 #[.slice A0 l0.length c0] w fun e w'=>∃ v0_:Value,e=.returned (v0_)∧Kd.R (Kd.int .u8) 5 w' w.heap.size (fun _=>True) v0_ r∧Below w.heap.size w w':=by
 have HR0:=yaa.mk hr0
 have HC0:=yaa.mk hc0
 clear hr0 hc0
 have HB:=yaa.mk (Below.refl w.heap.size w)
 have H:(yay.l0 k l0 (([]:List Int)) 0)=some r:=h
 clear h
 obtain⟨y585,hy585⟩:∃ y_:List Int,y_=(([]:List Int)):=⟨_,rfl⟩
 replace H:(yay.l0 k l0 y585 0)=some r:=by first|(rw[hy585];with_reducible exact H)|(have H2_:=(Option.bind_some _ _).symm.trans H;rw[hy585];with_reducible exact H2_)|(have H2_:=(Option.bind_some _ _).symm.trans H;with_reducible exact H2_)|with_reducible exact H|(rw[hy585];exact H)|exact H
 have Ny585:=yaa.mk hy585
 clear hy585
 have H':=yaa.mk H
 clear H
 go_enter Tryz.func24,Tryz.ntmps24
 go_wp2_with (first|((with_reducible refine yb1 (N:=5) rfl ?_);refine Kd.R_lit (Kd.int .u8) _ 5 ?hg (N:=5) ?hd (xs:=([]:List Int)) (inner:=[]) (ok:=fun _=>True) (okp:=fun _=>True) ?hr ?hp (fun _ hk=>hk) trivial (Below.refl _ _) (Nat.le_refl _) (by simp) ?_;(case hd=>rfl);(case hg=>rfl);(case hr=>first|(go_simp;done)|(go_simp;rfl));(case hp=>exact(Reps.none _ _));intro v586 w2 ho3 hb hg_ hnew_;clear hg_ hnew_;(first|rw[← Ny585.out] at ho3|(simp only[Int.reduceToNat] at ho3;rw[← Ny585.out] at ho3));have n0_:=yaa.mk (Kd.R_lower ho3 (yaf zB));have n1_:=yaa.mk (yai zB hb);clear HB;have HO587:=n0_;have HB:=n1_;clear n0_ n1_;clear hb ho3))
 go_loopg [3,4] k (fun kq v3 v4 w'=>∃ (x3_1:List Int) (x4_1:Int),v4=.int .i64 x4_1∧yaa (yay.l0 kq l0 x3_1 x4_1=some r)∧yaa (kq≤k)∧yaa (Kd.R (Kd.int .u8) 5 w' w.heap.size (fun _=>True) v3 x3_1)∧yaa (Below w.heap.size w w'))
 case atStart=>exact⟨(y585),(0),zF,H',⟨Nat.le_refl _⟩,⟨zR HO587.out⟩,⟨zB⟩⟩
 case round =>
  clear H'
  try clear c2
  try clear p2
  obtain⟨x3_1,x4_1,rfl,HA,HK1,HO_3,HB⟩:=hrel
  cases gk with
  | zero=>exact absurd HA.out (by simp [yay.l0])
  | succ k1 =>
   have H:=HA.out
   clear HA
   simp only[yay.l0] at H
   by_cases c4:x4_1<(l0.length:Int)
   ·rw[if_pos c4] at H
    have c4b0:=decide_eq_true c4
    clear c4
    by_cases c5:0≤x4_1
    ·rw[if_pos c5] at H
     have c5b0:=decide_eq_true c5
     clear c5
     by_cases c6:x3_1.length<140737488355328
     ·rw[if_pos c6] at H
      have LMc6:=yaa.mk c6
      clear c6
      obtain⟨y589,hy589⟩:∃ y_:List Int,y_=(x3_1++[rd l0 x4_1]):=⟨_,rfl⟩
      replace H:(yay.l0 k1 l0 y589 (wrap64 (x4_1+1)))=some r:=by first|(rw[hy589];with_reducible exact H)|(have H2_:=(Option.bind_some _ _).symm.trans H;rw[hy589];with_reducible exact H2_)|(have H2_:=(Option.bind_some _ _).symm.trans H;with_reducible exact H2_)|with_reducible exact H|(rw[hy589];exact H)|exact H
      have Ny589:=yaa.mk hy589
      clear hy589
      have H':=yaa.mk H
      clear H
      have p588:0≤(x4_1:Int):=of_decide_eq_true zA
      have q588:x4_1<(l0.length:Int):=of_decide_eq_true zA
      obtain⟨ad588,e588,hx588_0⟩:=Kd.at_int HR0.out x4_1 p588 q588
      cases e588
      replace hx588_0:=(HB.out.cell (World.block_lt_of_cell? w _ hx588_0)).trans hx588_0
      replace p588:=eq_true p588
      replace q588:=eq_true q588
      go_wp2_with (first|((with_reducible refine ybm (b:=.append) (xs:=#[.tmp 12,.tmp 17]) rfl ?_);at_builtin;refine Kd.R_append (Kd.int .u8) (w0:=w) w.heap.size rfl (.tmp 12) (.tmp 17) 25 5 (.int .u8 0) 1 rfl Tryz.underlying25 ycj rfl (by decide) (by omega) u3 x3_1 (rd l0 x4_1) [.int .u8 (rd l0 x4_1)] (fun _=>True) (fun _=>False) rfl rfl ?aP (fun _ hk=>hk.elim) ?aF ?aO ?aB ?aS ?aL ?_;(case aP=>exact rfl);(case aB=>exact zB);(case aF=>exact fun _ _=>trivial);(case aO=>exact(zR HO_3.out));(case aS=>exact(yaf zB));(case aL=>have:=LMc6.out;omega);intro v590 w7 ho hb hg hat;rw[← Ny589.out] at ho;have n0_:=yaa.mk (hb);have n1_:=yaa.mk (ho);clear HB;clear HO_3;have HB:=n0_;have HO591:=n1_;clear n0_ n1_;clear ho hb hg hat))
      go_roundg k1
      case measure=>have:=HK1.out;omega
      case rel=>exact⟨(y589),(wrap64 (x4_1+1)),zF,H',⟨by have:=HK1.out;omega⟩,⟨zR HO591.out⟩,⟨zB⟩⟩
     ·rw[if_neg c6] at H
      exact absurd H (by simp)
    ·rw[if_neg c5] at H
     exact absurd H (by simp)
   ·rw[if_neg c4] at H
    have c4b0:=decide_eq_false c4
    clear c4
    obtain rfl:=Option.some.inj H
    go_wp2
    go_ret
    exact⟨_,zG,zR HO_3.out,zB⟩
def ye2.f (a0:Int) (a1:Int):Option (Bool):=if a1=1 then (some true) else (if a0≤6 then (if a1=2 then (some true) else (if a1=3 then (some true) else (if a0 > 6 then (if a1=4 then (some true) else (some (a1 == 5))) else (some false)))) else (if a0 > 6 then (if a1=4 then (some true) else (some (a1 == 5))) else (some false)))
theorem ye2.calls (a0:Int) (a1:Int) (r:Bool) (w:World) (h:ye2.f a0 a1=some r) :
  Calls Tryz.prog 32 #[.int .i64 a0,.int .i64 a1] w fun e w'=>e=.returned (.bool r)∧yap w w':=by
 have H:(if a1=1 then (some true) else (if a0≤6 then (if a1=2 then (some true) else (if a1=3 then (some true) else (if a0 > 6 then (if a1=4 then (some true) else (some (a1 == 5))) else (some false)))) else (if a0 > 6 then (if a1=4 then (some true) else (some (a1 == 5))) else (some false))))=some r:=h
 clear h
 by_cases c3:a1=1
 ·rw[if_pos c3] at H
  have c3b0:(a1 == 1)=true:=beq_iff_eq.mpr c3
  have c3b1:(a1 != 1)=false:=bne_eq_false_iff_eq.mpr c3
  clear c3
  obtain rfl:=Option.some.inj H
  go_enter Tryz.func32,Tryz.ntmps32
  go_wp2
  go_ret
  exact⟨zF,zD⟩
 ·rw[if_neg c3] at H
  have c3b0:(a1 == 1)=false:=beq_eq_false_iff_ne.mpr c3
  have c3b1:(a1 != 1)=true:=bne_iff_ne.mpr c3
  by_cases c4:a0≤6
  ·rw[if_pos c4] at H
   have c4b0:=decide_eq_true c4
   clear c4
   by_cases c5:a1=2
   ·rw[if_pos c5] at H
    have c5b0:(a1 == 2)=true:=beq_iff_eq.mpr c5
    have c5b1:(a1 != 2)=false:=bne_eq_false_iff_eq.mpr c5
    clear c5
    obtain rfl:=Option.some.inj H
    go_enter Tryz.func32,Tryz.ntmps32
    go_wp2
    go_ret
    exact⟨zF,zD⟩
   ·rw[if_neg c5] at H
    have c5b0:(a1 == 2)=false:=beq_eq_false_iff_ne.mpr c5
    have c5b1:(a1 != 2)=true:=bne_iff_ne.mpr c5
    by_cases c6:a1=3
    ·rw[if_pos c6] at H
     have c6b0:(a1 == 3)=true:=beq_iff_eq.mpr c6
     have c6b1:(a1 != 3)=false:=bne_eq_false_iff_eq.mpr c6
     clear c6
     obtain rfl:=Option.some.inj H
     go_enter Tryz.func32,Tryz.ntmps32
     go_wp2
     go_ret
     exact⟨zF,zD⟩
    ·rw[if_neg c6] at H
     have c6b0:(a1 == 3)=false:=beq_eq_false_iff_ne.mpr c6
     have c6b1:(a1 != 3)=true:=bne_iff_ne.mpr c6
     by_cases c7:a0 > 6
     ·rw[if_pos c7] at H
      have c7b0:decide (6<a0)=true:=decide_eq_true c7
      clear c7
      by_cases c8:a1=4
      ·rw[if_pos c8] at H
       have c8b0:(a1 == 4)=true:=beq_iff_eq.mpr c8
       have c8b1:(a1 != 4)=false:=bne_eq_false_iff_eq.mpr c8
       clear c8
       obtain rfl:=Option.some.inj H
       go_enter Tryz.func32,Tryz.ntmps32
       go_wp2
       go_ret
       exact⟨zF,zD⟩
      ·rw[if_neg c8] at H
       have c8b0:(a1 == 4)=false:=beq_eq_false_iff_ne.mpr c8
       have c8b1:(a1 != 4)=true:=bne_iff_ne.mpr c8
       obtain rfl:=Option.some.inj H
       go_enter Tryz.func32,Tryz.ntmps32
       go_wp2
       go_ret
       exact⟨zF,zD⟩
     ·rw[if_neg c7] at H
      have c7b0:decide (6<a0)=false:=decide_eq_false c7
      clear c7
      obtain rfl:=Option.some.inj H
      go_enter Tryz.func32,Tryz.ntmps32
      go_wp2
      go_ret
      exact⟨zF,zD⟩
  ·rw[if_neg c4] at H
   have c4b0:=decide_eq_false c4
   clear c4
   by_cases c9:a0 > 6
   ·rw[if_pos c9] at H
    have c9b0:decide (6<a0)=true:=decide_eq_true c9
    clear c9
    by_cases c10:a1=4
    ·rw[if_pos c10] at H
     have c10b0:(a1 == 4)=true:=beq_iff_eq.mpr c10
     have c10b1:(a1 != 4)=false:=bne_eq_false_iff_eq.mpr c10
     clear c10
     obtain rfl:=Option.some.inj H
     go_enter Tryz.func32,Tryz.ntmps32
     go_wp2
     go_ret
     exact⟨zF,zD⟩
    ·rw[if_neg c10] at H
     have c10b0:(a1 == 4)=false:=beq_eq_false_iff_ne.mpr c10
     have c10b1:(a1 != 4)=true:=bne_iff_ne.mpr c10
     obtain rfl:=Option.some.inj H
     go_enter Tryz.func32,Tryz.ntmps32
     go_wp2
     go_ret
     exact⟨zF,zD⟩
   ·rw[if_neg c9] at H
    have c9b0:decide (6<a0)=false:=decide_eq_false c9
    clear c9
    obtain rfl:=Option.some.inj H
    go_enter Tryz.func32,Tryz.ntmps32
    go_wp2
    go_ret
    exact⟨zF,zD⟩
def yca.f (a0:Int):Option (Int):=if a0=1 then (some (-128)) else (if a0=2 then (some (-32768)) else (if a0=3 then (some (-2147483648)) else (if a0=4 then (some (-9223372036854775808)) else (some 0))))
theorem yca.calls (a0:Int) (r:Int) (w:World) (h:yca.f a0=some r) :
  Calls Tryz.prog 91 #[.int .i64 a0] w fun e w'=>e=.returned (.int .i64 r)∧yap w w':=by
 have H:(if a0=1 then (some (-128)) else (if a0=2 then (some (-32768)) else (if a0=3 then (some (-2147483648)) else (if a0=4 then (some (-9223372036854775808)) else (some 0)))))=some r:=h
 clear h
 by_cases c2:a0=1
 ·rw[if_pos c2] at H
  have c2b0:(a0 == 1)=true:=beq_iff_eq.mpr c2
  have c2b1:(a0 != 1)=false:=bne_eq_false_iff_eq.mpr c2
  clear c2
  obtain rfl:=Option.some.inj H
  go_enter Tryz.func91,Tryz.ntmps91
  go_wp2
  go_ret
  exact⟨zF,zD⟩
 ·rw[if_neg c2] at H
  have c2b0:(a0 == 1)=false:=beq_eq_false_iff_ne.mpr c2
  have c2b1:(a0 != 1)=true:=bne_iff_ne.mpr c2
  by_cases c3:a0=2
  ·rw[if_pos c3] at H
   have c3b0:(a0 == 2)=true:=beq_iff_eq.mpr c3
   have c3b1:(a0 != 2)=false:=bne_eq_false_iff_eq.mpr c3
   clear c3
   obtain rfl:=Option.some.inj H
   go_enter Tryz.func91,Tryz.ntmps91
   go_wp2
   go_ret
   exact⟨zF,zD⟩
  ·rw[if_neg c3] at H
   have c3b0:(a0 == 2)=false:=beq_eq_false_iff_ne.mpr c3
   have c3b1:(a0 != 2)=true:=bne_iff_ne.mpr c3
   by_cases c4:a0=3
   ·rw[if_pos c4] at H
    have c4b0:(a0 == 3)=true:=beq_iff_eq.mpr c4
    have c4b1:(a0 != 3)=false:=bne_eq_false_iff_eq.mpr c4
    clear c4
    obtain rfl:=Option.some.inj H
    go_enter Tryz.func91,Tryz.ntmps91
    go_wp2
    go_ret
    exact⟨zF,zD⟩
   ·rw[if_neg c4] at H
    have c4b0:(a0 == 3)=false:=beq_eq_false_iff_ne.mpr c4
    have c4b1:(a0 != 3)=true:=bne_iff_ne.mpr c4
    by_cases c5:a0=4
    ·rw[if_pos c5] at H
     have c5b0:(a0 == 4)=true:=beq_iff_eq.mpr c5
     have c5b1:(a0 != 4)=false:=bne_eq_false_iff_eq.mpr c5
     clear c5
     obtain rfl:=Option.some.inj H
     go_enter Tryz.func91,Tryz.ntmps91
     go_wp2
     go_ret
     exact⟨zF,zD⟩
    ·rw[if_neg c5] at H
     have c5b0:(a0 == 4)=false:=beq_eq_false_iff_ne.mpr c5
     have c5b1:(a0 != 4)=true:=bne_iff_ne.mpr c5
     obtain rfl:=Option.some.inj H
     go_enter Tryz.func91,Tryz.ntmps91
     go_wp2
     go_ret
     exact⟨zF,zD⟩
def ycb.f (a0:Int):Option (Int):=if a0=1 then (some 127) else (if a0=2 then (some 32767) else (if a0=3 then (some 2147483647) else (if a0=4 then (some 9223372036854775807) else (if a0=5 then (some 65535) else (some 1)))))
theorem ycb.calls (a0:Int) (r:Int) (w:World) (h:ycb.f a0=some r) :
  Calls Tryz.prog 92 #[.int .i64 a0] w fun e w'=>e=.returned (.int .i64 r)∧yap w w':=by
 have H:(if a0=1 then (some 127) else (if a0=2 then (some 32767) else (if a0=3 then (some 2147483647) else (if a0=4 then (some 9223372036854775807) else (if a0=5 then (some 65535) else (some 1))))))=some r:=h
 clear h
 by_cases c2:a0=1
 ·rw[if_pos c2] at H
  have c2b0:(a0 == 1)=true:=beq_iff_eq.mpr c2
  have c2b1:(a0 != 1)=false:=bne_eq_false_iff_eq.mpr c2
  clear c2
  obtain rfl:=Option.some.inj H
  go_enter Tryz.func92,Tryz.ntmps92
  go_wp2
  go_ret
  exact⟨zF,zD⟩
 ·rw[if_neg c2] at H
  have c2b0:(a0 == 1)=false:=beq_eq_false_iff_ne.mpr c2
  have c2b1:(a0 != 1)=true:=bne_iff_ne.mpr c2
  by_cases c3:a0=2
  ·rw[if_pos c3] at H
   have c3b0:(a0 == 2)=true:=beq_iff_eq.mpr c3
   have c3b1:(a0 != 2)=false:=bne_eq_false_iff_eq.mpr c3
   clear c3
   obtain rfl:=Option.some.inj H
   go_enter Tryz.func92,Tryz.ntmps92
   go_wp2
   go_ret
   exact⟨zF,zD⟩
  ·rw[if_neg c3] at H
   have c3b0:(a0 == 2)=false:=beq_eq_false_iff_ne.mpr c3
   have c3b1:(a0 != 2)=true:=bne_iff_ne.mpr c3
   by_cases c4:a0=3
   ·rw[if_pos c4] at H
    have c4b0:(a0 == 3)=true:=beq_iff_eq.mpr c4
    have c4b1:(a0 != 3)=false:=bne_eq_false_iff_eq.mpr c4
    clear c4
    obtain rfl:=Option.some.inj H
    go_enter Tryz.func92,Tryz.ntmps92
    go_wp2
    go_ret
    exact⟨zF,zD⟩
   ·rw[if_neg c4] at H
    have c4b0:(a0 == 3)=false:=beq_eq_false_iff_ne.mpr c4
    have c4b1:(a0 != 3)=true:=bne_iff_ne.mpr c4
    by_cases c5:a0=4
    ·rw[if_pos c5] at H
     have c5b0:(a0 == 4)=true:=beq_iff_eq.mpr c5
     have c5b1:(a0 != 4)=false:=bne_eq_false_iff_eq.mpr c5
     clear c5
     obtain rfl:=Option.some.inj H
     go_enter Tryz.func92,Tryz.ntmps92
     go_wp2
     go_ret
     exact⟨zF,zD⟩
    ·rw[if_neg c5] at H
     have c5b0:(a0 == 4)=false:=beq_eq_false_iff_ne.mpr c5
     have c5b1:(a0 != 4)=true:=bne_iff_ne.mpr c5
     by_cases c6:a0=5
     ·rw[if_pos c6] at H
      have c6b0:(a0 == 5)=true:=beq_iff_eq.mpr c6
      have c6b1:(a0 != 5)=false:=bne_eq_false_iff_eq.mpr c6
      clear c6
      obtain rfl:=Option.some.inj H
      go_enter Tryz.func92,Tryz.ntmps92
      go_wp2
      go_ret
      exact⟨zF,zD⟩
     ·rw[if_neg c6] at H
      have c6b0:(a0 == 5)=false:=beq_eq_false_iff_ne.mpr c6
      have c6b1:(a0 != 5)=true:=bne_iff_ne.mpr c6
      obtain rfl:=Option.some.inj H
      go_enter Tryz.func92,Tryz.ntmps92
      go_wp2
      go_ret
      exact⟨zF,zD⟩
def ybf.l0:Nat→List Int→Int→Option (Bool)
 | 0,_,_=>none
 | k+1,x0,x3=>if x3<(x0.length:Int) then (if 0≤x3 then (if (rd x0 x3)=0 then (some true) else (ybf.l0 k x0 (wrap64 (x3+1)))) else (none)) else (some false)
def ybf.f (k:Nat) (l0:List Int):Option (Bool):=ybf.l0 k l0 0
theorem ybf.calls (k:Nat) (A0:Option Addr) (c0:Nat) (l0:List Int) (r:Bool) (w:World) (hr0:Kd.C (Kd.int .u8) w A0 l0.length l0) (hc0:l0.length≤c0) (h:ybf.f k l0=some r) :
  Calls Tryz.prog 93 #[.slice A0 l0.length c0] w fun e w'=>e=.returned (.bool r)∧yap w w':=by
 have HR0:=yaa.mk hr0
 have HC0:=yaa.mk hc0
 clear hr0 hc0
 have H:(ybf.l0 k l0 0)=some r:=h
 clear h
 have H':=yaa.mk H
 clear H
 go_enter Tryz.func93,Tryz.ntmps93
 go_wp2
 go_loopg [3] k (fun kq v3 w'=>∃ (x3_1:Int),v3=.int .i64 x3_1∧yaa (ybf.l0 kq l0 x3_1=some r)∧yaa (kq≤k)∧yap w w')
 case atStart=>exact⟨(0),zF,H',⟨Nat.le_refl _⟩,zD⟩
 case round =>
  clear H'
  obtain⟨x3_1,rfl,HA,HK1,⟨m1,rfl⟩⟩:=hrel
  cases gk with
  | zero=>exact absurd HA.out (by simp [ybf.l0])
  | succ k1 =>
   have H:=HA.out
   clear HA
   simp only[ybf.l0] at H
   by_cases c2:x3_1<(l0.length:Int)
   ·rw[if_pos c2] at H
    have c2b0:=decide_eq_true c2
    clear c2
    by_cases c3:0≤x3_1
    ·rw[if_pos c3] at H
     have c3b0:=decide_eq_true c3
     clear c3
     by_cases c4:(rd l0 x3_1)=0
     ·rw[if_pos c4] at H
      have c4b0:((rd l0 x3_1) == 0)=true:=beq_iff_eq.mpr c4
      have c4b1:((rd l0 x3_1) != 0)=false:=bne_eq_false_iff_eq.mpr c4
      clear c4
      obtain rfl:=Option.some.inj H
      have p609:0≤(x3_1:Int):=of_decide_eq_true zA
      have q609:x3_1<(l0.length:Int):=of_decide_eq_true zA
      obtain⟨ad609,e609,hx609_0⟩:=Kd.at_int HR0.out x3_1 p609 q609
      cases e609
      replace p609:=eq_true p609
      replace q609:=eq_true q609
      go_wp2
      go_ret
      exact⟨zF,zD⟩
     ·rw[if_neg c4] at H
      have c4b0:((rd l0 x3_1) == 0)=false:=beq_eq_false_iff_ne.mpr c4
      have c4b1:((rd l0 x3_1) != 0)=true:=bne_iff_ne.mpr c4
      have H':=yaa.mk H
      clear H
      have p609:0≤(x3_1:Int):=of_decide_eq_true zA
      have q609:x3_1<(l0.length:Int):=of_decide_eq_true zA
      obtain⟨ad609,e609,hx609_0⟩:=Kd.at_int HR0.out x3_1 p609 q609
      cases e609
      replace p609:=eq_true p609
      replace q609:=eq_true q609
      go_wp2
      go_roundg k1
      case measure=>have:=HK1.out;omega
      case rel=>exact⟨(wrap64 (x3_1+1)),zF,H',⟨by have:=HK1.out;omega⟩,zD⟩
    ·rw[if_neg c3] at H
     exact absurd H (by simp)
   ·rw[if_neg c2] at H
    have c2b0:=decide_eq_false c2
    clear c2
    obtain rfl:=Option.some.inj H
    go_wp2
    go_ret
    exact⟨zF,zD⟩
end Go.Proofs.YteeikgjjgfdjgaaGreat.PK
end
