/-
  Parts of the proof: E8.
-/
import Derived.Test.YteeikgjjgfdjgaaGreatR3
import Derived.Test.YteeikgjjgfdjgaaGreatR7
section
namespace Go.Proofs.YteeikgjjgfdjgaaGreat.PK
open Go.RowKit Go.Proofs.YteeikgjjgfdjgaaGreatW.PrintWords Go.Proofs.YteeikgjjgfdjgaaGreatW.PrintLast Go.Proofs.YteeikgjjgfdjgaaGreatW.PrintMore
attribute [local go_sem] max2_int min2_int max_two min_two max_three min_three max_four min_four
set_option linter.unusedVariables false
set_option linter.unusedSimpArgs false
def stoaref03_Seal.f (k:Nat) (l0:List Int):Option (List Int):=(stoaref03_Sum.f k l0).bind fun t574=>((stoaref01_Low.f k (IntKind.u64.wrap (t574)) 4).bind fun t575=>((stoaref01_Cat.f k l0 t575).bind fun t578=>(some t578)))
set_option maxHeartbeats 8000000 in
set_option maxRecDepth 100000 in
theorem stoaref03_Seal.calls (k:Nat) (A0:Option Addr) (c0:Nat) (l0:List Int) (r:List Int) (w:World) (hr0:Kd.C (Kd.int .u8) w A0 l0.length l0) (hc0:l0.length ≤ c0) (h:stoaref03_Seal.f k l0 = some r) :
  Calls Tryz.prog 26 #[.slice A0 l0.length c0] w fun e w'=>∃ v0_:Value,e = .returned (v0_) ∧ Kd.R (Kd.int .u8) 5 w' w.heap.size (fun _=>True) v0_ r ∧ Below w.heap.size w w':=by
 have HR0:=Aside0.mk hr0
 have HC0:=Aside0.mk hc0
 clear hr0 hc0
 have HB:=Aside0.mk (Below.refl w.heap.size w)
 have H:((stoaref03_Sum.f k l0).bind fun t574=>((stoaref01_Low.f k (IntKind.u64.wrap (t574)) 4).bind fun t575=>((stoaref01_Cat.f k l0 t575).bind fun t578=>(some t578)))) = some r:=h
 clear h
 replace H:=Option.bind_eq_some_iff.mp H
 obtain ⟨t574,A20,H⟩:=H
 try dsimp only at H
 have A2:=Aside0.mk A20
 clear A20
 replace H:=Option.bind_eq_some_iff.mp H
 obtain ⟨t575,A30,H⟩:=H
 try dsimp only at H
 have A3:=Aside0.mk A30
 clear A30
 replace H:=Option.bind_eq_some_iff.mp H
 obtain ⟨t578,A40,H⟩:=H
 try dsimp only at H
 have A4:=Aside0.mk A40
 clear A40
 obtain rfl:=Option.some.inj H
 go_enter Tryz.func26,Tryz.ntmps26
 go_wp2_with (first | ((with_reducible refine gate_callee (f:=49) rfl ?_);refine goesL_ (some 5) rfl rfl Tryz.func49 (by kernel_rfl) rfl #[.slice A0 l0.length c0] rfl zE ?_;(with_reducible refine (stoaref03_Sum.calls k _ _ l0 t574 _ ?side1 ?side2 A2.out).mono ?_);(case side1=>exact zC HR0.out);(case side2=>exact HC0.out);rintro e w' ⟨rfl,⟨nd,rfl⟩⟩;refine ⟨_,rfl,?_⟩) | ((with_reducible refine gate_callee (f:=48) rfl ?_);refine goesL_ (some 7) rfl rfl Tryz.func48 (by kernel_rfl) rfl #[.int .u64 (IntKind.u64.wrap (t574)),.int .i64 4] rfl zE ?_;(with_reducible refine (stoaref01_Low.calls k (IntKind.u64.wrap (t574)) 4 t575 _ A3.out).mono ?_);rintro e w5 ⟨v576,rfl,ho0,hb⟩;refine ⟨_,rfl,?_⟩;have n0_:=Aside0.mk (Kd.R_lower ho0 (below_size zB));have n1_:=Aside0.mk (below_step zB hb);clear HB;have HO577:=n0_;have HB:=n1_;clear n0_ n1_;(try clear hb);(try clear hb2);(try clear hk);(try clear hi);(try clear ho0);obtain ⟨Ao6,co6,eo6⟩:=Kd.R_slice HO577.out;subst eo6) | ((with_reducible refine gate_callee (f:=47) rfl ?_);refine goesL_ (some 8) rfl rfl Tryz.func47 (by kernel_rfl) rfl #[.slice A0 l0.length c0,.slice Ao6 t575.length co6] rfl zE ?_;(with_reducible refine (stoaref01_Cat.calls k _ _ l0 _ _ t575 t578 _ ?side1 ?side2 ?side3 ?side4 A4.out).mono ?_);(case side1=>exact zC (Kd.C_below HR0.out HB.out));(case side2=>exact HC0.out);(case side3=>exact zC (Kd.R_reads' HO577.out).2.2);(case side4=>exact (Kd.R_reads' HO577.out).2.1);rintro e w7 ⟨v579,rfl,ho0,hb⟩;refine ⟨_,rfl,?_⟩;have n0_:=Aside0.mk (Kd.R_elder' (zR HO577.out) (Kd.R_base ho0) hb);have n1_:=Aside0.mk (Kd.R_lower (Kd.R_new' ho0 (Kd.R_lt (zR HO577.out))) (below_size zB));have n2_:=Aside0.mk (below_step zB hb);clear HO577;clear HB;have HO577:=n0_;have HO580:=n1_;have HB:=n2_;clear n0_ n1_ n2_;(try clear hb);(try clear hb2);(try clear hk);(try clear hi);(try clear ho0)))
 go_ret
 exact ⟨_,zG,by (with_reducible repeat (first | apply Kd.R_alloc | apply Kd.R_drewN | apply Kd.R_drew));exact Kd.R_mono HO580.out (fun _ hk=>trivial),zB⟩
def stoaref01_Copy.l0:Nat → List Int → List Int → Int → Option (List Int)
 | 0,_,_,_=>none
 | k + 1,x0,x3,x4=>if x4 < (x0.length:Int) then (if 0 ≤ x4 then (if x3.length < 140737488355328 then (stoaref01_Copy.l0 k x0 (x3 ++ [rd x0 x4]) (wrap64 (x4 + 1))) else (none)) else (none)) else (some x3)
def stoaref01_Copy.f (k:Nat) (l0:List Int):Option (List Int):=stoaref01_Copy.l0 k l0 (([]:List Int)) 0
theorem stoaref01_Copy.mono_l:∀ k,(∀ y0 y1 y2,LeO (stoaref01_Copy.l0 k y0 y1 y2) (stoaref01_Copy.l0 (k + 1) y0 y1 y2))
 | 0=>fun _ _ _ r h=>by simp [stoaref01_Copy.l0] at h
 | k + 1=>by
  have ih0:=stoaref01_Copy.mono_l k
  ·intro y0 y1 y2
   unfold stoaref01_Copy.l0
   repeat' first
   | (with_reducible exact ih0 _ _ _)
   | (with_reducible exact LeO.refl _)
   | (with_reducible exact LeO.none _)
   | (with_reducible refine LeO.ite ?_ ?_)
   | (with_reducible refine LeO.bind ?_ (fun _=>?_))
theorem stoaref01_Copy.mono:∀ a0 k,LeO (stoaref01_Copy.f k a0) (stoaref01_Copy.f (k + 1) a0):=by
 intro a0 k
 have ih0:=stoaref01_Copy.mono_l k
 unfold stoaref01_Copy.f
 repeat' first
   | (with_reducible exact ih0 _ _ _)
   | (with_reducible exact LeO.refl _)
   | (with_reducible exact LeO.none _)
   | (with_reducible refine LeO.ite ?_ ?_)
   | (with_reducible refine LeO.bind ?_ (fun _=>?_))
set_option maxHeartbeats 8000000 in
set_option maxRecDepth 100000 in
theorem stoaref01_Copy.calls (k:Nat) (A0:Option Addr) (c0:Nat) (l0:List Int) (r:List Int) (w:World) (hr0:Kd.C (Kd.int .u8) w A0 l0.length l0) (hc0:l0.length ≤ c0) (h:stoaref01_Copy.f k l0 = some r) :
  Calls Tryz.prog 24 #[.slice A0 l0.length c0] w fun e w'=>∃ v0_:Value,e = .returned (v0_) ∧ Kd.R (Kd.int .u8) 5 w' w.heap.size (fun _=>True) v0_ r ∧ Below w.heap.size w w':=by
 have HR0:=Aside0.mk hr0
 have HC0:=Aside0.mk hc0
 clear hr0 hc0
 have HB:=Aside0.mk (Below.refl w.heap.size w)
 have H:(stoaref01_Copy.l0 k l0 (([]:List Int)) 0) = some r:=h
 clear h
 obtain ⟨y585,hy585⟩:∃ y_:List Int,y_ = (([]:List Int)):=⟨_,rfl⟩
 replace H:(stoaref01_Copy.l0 k l0 y585 0) = some r:=by first | (rw [hy585];with_reducible exact H) | (have H2_:=(Option.bind_some _ _).symm.trans H;rw [hy585];with_reducible exact H2_) | (have H2_:=(Option.bind_some _ _).symm.trans H;with_reducible exact H2_) | with_reducible exact H | (rw [hy585];exact H) | exact H
 have Ny585:=Aside0.mk hy585
 clear hy585
 have H':=Aside0.mk H
 clear H
 go_enter Tryz.func24,Tryz.ntmps24
 go_wp2_with (first | ((with_reducible refine gate_dst (N:=5) rfl ?_);refine Kd.R_lit (Kd.int .u8) _ 5 ?hg (N:=5) ?hd (xs:=([]:List Int)) (inner:=[]) (ok:=fun _=>True) (okp:=fun _=>True) ?hr ?hp (fun _ hk=>hk) trivial (Below.refl _ _) (Nat.le_refl _) (by simp) ?_;(case hd=>rfl);(case hg=>rfl);(case hr=>first | (go_simp;done) | (go_simp;rfl));(case hp=>exact (Reps.none _ _));intro v586 w2 ho3 hb hg_ hnew_;clear hg_ hnew_;(first | rw [← Ny585.out] at ho3 | (simp only [Int.reduceToNat] at ho3;rw [← Ny585.out] at ho3));have n0_:=Aside0.mk (Kd.R_lower ho3 (below_size zB));have n1_:=Aside0.mk (below_step zB hb);clear HB;have HO587:=n0_;have HB:=n1_;clear n0_ n1_;clear hb ho3))
 go_loopg [3,4] k (fun kq v3 v4 w'=>∃ (x3_1:List Int) (x4_1:Int),v4 = .int .i64 x4_1 ∧ Aside0 (stoaref01_Copy.l0 kq l0 x3_1 x4_1 = some r) ∧ Aside0 (kq ≤ k) ∧ Aside0 (Kd.R (Kd.int .u8) 5 w' w.heap.size (fun _=>True) v3 x3_1) ∧ Aside0 (Below w.heap.size w w'))
 case atStart=>exact ⟨(y585),(0),zF,H',⟨Nat.le_refl _⟩,⟨zR HO587.out⟩,⟨zB⟩⟩
 case round =>
  clear H'
  try clear c2
  try clear p2
  obtain ⟨x3_1,x4_1,rfl,HA,HK1,HO_3,HB⟩:=hrel
  cases gk with
  | zero=>exact absurd HA.out (by simp [stoaref01_Copy.l0])
  | succ k1 =>
   have H:=HA.out
   clear HA
   simp only [stoaref01_Copy.l0] at H
   by_cases c4:x4_1 < (l0.length:Int)
   ·rw [if_pos c4] at H
    have c4b0:=decide_eq_true c4
    clear c4
    by_cases c5:0 ≤ x4_1
    ·rw [if_pos c5] at H
     have c5b0:=decide_eq_true c5
     clear c5
     by_cases c6:x3_1.length < 140737488355328
     ·rw [if_pos c6] at H
      have LMc6:=Aside0.mk c6
      clear c6
      obtain ⟨y589,hy589⟩:∃ y_:List Int,y_ = (x3_1 ++ [rd l0 x4_1]):=⟨_,rfl⟩
      replace H:(stoaref01_Copy.l0 k1 l0 y589 (wrap64 (x4_1 + 1))) = some r:=by first | (rw [hy589];with_reducible exact H) | (have H2_:=(Option.bind_some _ _).symm.trans H;rw [hy589];with_reducible exact H2_) | (have H2_:=(Option.bind_some _ _).symm.trans H;with_reducible exact H2_) | with_reducible exact H | (rw [hy589];exact H) | exact H
      have Ny589:=Aside0.mk hy589
      clear hy589
      have H':=Aside0.mk H
      clear H
      have p588:0 ≤ (x4_1:Int):=of_decide_eq_true zA
      have q588:x4_1 < (l0.length:Int):=of_decide_eq_true zA
      obtain ⟨ad588,e588,hx588_0⟩:=Kd.at_int HR0.out x4_1 p588 q588
      cases e588
      replace hx588_0:=(HB.out.cell (World.block_lt_of_cell? w _ hx588_0)).trans hx588_0
      replace p588:=eq_true p588
      replace q588:=eq_true q588
      go_wp2_with (first | ((with_reducible refine gate_builtin (b:=.append) (xs:=#[.tmp 12,.tmp 17]) rfl ?_);at_builtin;refine Kd.R_append (Kd.int .u8) (w0:=w) w.heap.size rfl (.tmp 12) (.tmp 17) 25 5 (.int .u8 0) 1 rfl Tryz.underlying25 info5 rfl (by decide) (by omega) u3 x3_1 (rd l0 x4_1) [.int .u8 (rd l0 x4_1)] (fun _=>True) (fun _=>False) rfl rfl ?aP (fun _ hk=>hk.elim) ?aF ?aO ?aB ?aS ?aL ?_;(case aP=>exact rfl);(case aB=>exact zB);(case aF=>exact fun _ _=>trivial);(case aO=>exact (zR HO_3.out));(case aS=>exact (below_size zB));(case aL=>have:=LMc6.out;omega);intro v590 w7 ho hb hg hat;rw [← Ny589.out] at ho;have n0_:=Aside0.mk (hb);have n1_:=Aside0.mk (ho);clear HB;clear HO_3;have HB:=n0_;have HO591:=n1_;clear n0_ n1_;clear ho hb hg hat))
      go_roundg k1
      case measure=>have:=HK1.out;omega
      case rel=>exact ⟨(y589),(wrap64 (x4_1 + 1)),zF,H',⟨by have:=HK1.out;omega⟩,⟨zR HO591.out⟩,⟨zB⟩⟩
     ·rw [if_neg c6] at H
      exact absurd H (by simp)
    ·rw [if_neg c5] at H
     exact absurd H (by simp)
   ·rw [if_neg c4] at H
    have c4b0:=decide_eq_false c4
    clear c4
    obtain rfl:=Option.some.inj H
    go_wp2
    go_ret
    exact ⟨_,zG,zR HO_3.out,zB⟩
def stoaref05_Twin.f (k:Nat) (a0_0:Bool) (a0_1:Int) (l0_2:List Int):Option (Bool × Int × List Int):=(stoaref01_Copy.f k l0_2).bind fun t594=>(some (a0_0,a0_1,t594))
def stoaref05_Twin.T1:Bool × List (List Nat × List Nat):=(true,[([],[]),([0],[0]),([],[]),([2],[2]),([],[]),([4],[4]),([5],[5]),([1,3,6],[1,3,6]),([7,6,0,1,2,3,4,5,6,7],[7])])
def stoaref05_Twin.B1:List Nat:=[0,1,0,4,0,16,48,127,255]
theorem stoaref05_Twin.tab1:rtab .any (opsOf Tryz.f27 1) = stoaref05_Twin.T1:=by kernel_rfl
theorem stoaref05_Twin.bits1:waitsOk stoaref05_Twin.T1.2 stoaref05_Twin.B1 = true:=by kernel_rfl
set_option maxHeartbeats 8000000 in
set_option maxRecDepth 100000 in
theorem stoaref05_Twin.calls (k:Nat) (a0_0:Bool) (a0_1:Int) (A0_2:Option Addr) (c0_2:Nat) (l0_2:List Int) (r1:Bool) (r2:Int) (r3:List Int) (w:World) (hr0_2:Kd.C (Kd.int .u8) w A0_2 l0_2.length l0_2) (hc0_2:l0_2.length ≤ c0_2) (h:stoaref05_Twin.f k a0_0 a0_1 l0_2 = some (r1,r2,r3)) :
  Calls Tryz.prog 27 #[.agg #[.bool a0_0,.int .i64 a0_1,.slice A0_2 l0_2.length c0_2]] w fun e w'=>∃ v2_:Value,e = .returned (.agg #[.bool r1,.int .i64 r2,v2_]) ∧ Kd.R (Kd.int .u8) 5 w' w.heap.size (fun _=>True) v2_ r3 ∧ Below w.heap.size w w':=by
 have hu53:=Tryz.underlying53
 have HR0_2:=Aside0.mk hr0_2
 have HC0_2:=Aside0.mk hc0_2
 clear hr0_2 hc0_2
 have HB:=Aside0.mk (Below.refl w.heap.size w)
 have H:((stoaref01_Copy.f k l0_2).bind fun t594=>(some (a0_0,a0_1,t594))) = some (r1,r2,r3):=h
 clear h
 replace H:=Option.bind_eq_some_iff.mp H
 obtain ⟨t594,A20,H⟩:=H
 try dsimp only at H
 have A2:=Aside0.mk A20
 clear A20
 simp only [Option.some.injEq,Prod.mk.injEq] at H
 obtain ⟨rfl,rfl,rfl⟩:=H
 go_enter Tryz.func27,Tryz.ntmps27
 try go_wp2_with (first | ((with_reducible refine gate_dst (N:=1) rfl ?_);refine box_event ?hg (N:=1) ?hd (cs:=#[.bool a0_0,.int .i64 a0_1,.slice A0_2 l0_2.length c0_2]) (t:=53) ?hr ?_;(case hd=>rfl);(case hg=>rfl);(case hr=>first | (go_simp;done) | (go_simp;rfl));intro gb592 hg w3 hbox hb;have n0_:=Aside0.mk (below_step zB hb);have n1_:=Aside0.mk (hbox);have n2_:=Aside0.mk ((by rw [hg];exact (below_size zB):w.heap.size ≤ gb592));have n3_:=Aside0.mk ((by rw [hg];exact (below_size zB):w.heap.size ≤ gb592));clear HB;have HB:=n0_;have BK592:=n1_;have GW592:=n2_;have GE592:=n3_;clear n0_ n1_ n2_ n3_;clear hb hbox hg) | ((with_reducible refine gate_dst (N:=2) rfl ?_);refine box_event ?hg (N:=2) ?hd (cs:=#[.bool false,.int .i64 0,.slice none 0 0]) (t:=53) ?hr ?_;(case hd=>rfl);(case hg=>rfl);(case hr=>first | (go_simp;done) | (go_simp;rfl));intro gb593 hg w4 hbox hb;have n0_:=Aside0.mk (blk_below (g:=gb592) (o:=.cells #[.bool a0_0,.int .i64 a0_1,.slice A0_2 l0_2.length c0_2] 53 (0,0)) (by (with_reducible repeat (first | refine blk_drewN ?_ _ | refine blk_drew ?_ | refine blk_alloc ?_ _));exact BK592.out) hb);have n1_:=Aside0.mk (below_step (have GE_:=GE592;zT) hb);have n2_:=Aside0.mk (hbox);have n3_:=Aside0.mk ((by rw [hg];exact (below_size (have GE_:=GE592;zT)):w.heap.size ≤ gb593));have n4_:=Aside0.mk ((by rw [hg];exact (below_size (have GE_:=GE592;zT)):w.heap.size ≤ gb593));have n5_:=Aside0.mk ((by rw [hg];exact Nat.ne_of_lt (blk_lt (g:=gb592) (o:=.cells #[.bool a0_0,.int .i64 a0_1,.slice A0_2 l0_2.length c0_2] 53 (0,0)) (by (with_reducible repeat (first | refine blk_drewN ?_ _ | refine blk_drew ?_ | refine blk_alloc ?_ _));exact BK592.out)):gb592 ≠ gb593));have n6_:=Aside0.mk ((by rw [hg];exact Nat.ne_of_gt (blk_lt (g:=gb592) (o:=.cells #[.bool a0_0,.int .i64 a0_1,.slice A0_2 l0_2.length c0_2] 53 (0,0)) (by (with_reducible repeat (first | refine blk_drewN ?_ _ | refine blk_drew ?_ | refine blk_alloc ?_ _));exact BK592.out)):gb593 ≠ gb592));clear BK592;clear HB;have BK592:=n0_;have HB:=n1_;have BK593:=n2_;have GW593:=n3_;have GE593:=n4_;have NB592_593:=n5_;have NB593_592:=n6_;clear n0_ n1_ n2_ n3_ n4_ n5_ n6_;clear hb hbox hg))
 have n0_:=Aside0.mk (blk_drew BK592.out)
 have n1_:=Aside0.mk (blk_drew BK593.out)
 have n2_:=Aside0.mk (below_drew1 HB.out)
 clear BK592
 clear BK593
 clear HB
 have BK592:=n0_
 have BK593:=n1_
 have HB:=n2_
 clear n0_ n1_ n2_
 refine start_ (n:=9) (S:=fun w'=>w'.cell? ⟨gb592,0,none⟩ = some (.bool a0_0) ∧ w'.cell? ⟨gb592,1,none⟩ = some (.int .i64 a0_1) ∧ w'.cell? ⟨gb592,2,none⟩ = some (.slice A0_2 l0_2.length c0_2)) (ds:=[]) #[false,false,false,false,false,false,false,false,false] (by kernel_rfl) rfl rfl ⟨(blk_cell BK592.out 0).trans rfl,(blk_cell BK592.out 1).trans rfl,(blk_cell BK592.out 2).trans rfl⟩ (fun hHeld=>?_);refine with_tabW stoaref05_Twin.tab1 stoaref05_Twin.bits1 (fun HT_ HW_=>?_)
 generalize w4.drew = w5 at BK592 BK593 HB hHeld ⊢
 refine pure_ (i:=0) (N:=some 3) (v:=?_) (a':=?_) #[true,false,false,false,false,false,false,false,false] rfl rfl (any_of HT_.out (by kernel_rfl)) (fun _ _ _ h=>h) (Or.inl ⟨by rfl,?_⟩) ?_ ?_
 rotate_left
 ·intro w'
  go_simp
  with_reducible rfl
 rotate_left
 ·simp only [Act.put,List.setIfInBounds_toArray,List.set_cons_zero,List.set_cons_succ,i64_w,i32_w]
  rfl
 refine pure_ (i:=2) (N:=some 5) (v:=?_) (a':=?_) #[true,false,true,false,false,false,false,false,false] rfl rfl (any_of HT_.out (by kernel_rfl)) (fun _ _ _ h=>h) (Or.inl ⟨by rfl,?_⟩) ?_ ?_
 rotate_left
 ·intro w'
  go_simp
  with_reducible rfl
 rotate_left
 ·simp only [Act.put,List.setIfInBounds_toArray,List.set_cons_zero,List.set_cons_succ,i64_w,i32_w]
  rfl
 refine pure_ (i:=4) (N:=some 7) (v:=?_) (a':=?_) #[true,false,true,false,true,false,false,false,false] rfl rfl (any_of HT_.out (by kernel_rfl)) (fun _ _ _ h=>h) (Or.inl ⟨by rfl,?_⟩) ?_ ?_
 rotate_left
 ·intro w'
  go_simp
  with_reducible rfl
 rotate_left
 ·simp only [Act.put,List.setIfInBounds_toArray,List.set_cons_zero,List.set_cons_succ,i64_w,i32_w]
  rfl
 refine take_ (i:=1) (N:=some 4) (v:=?_) (a':=?_) #[true,true,true,false,true,false,false,false,false] rfl rfl (take_ofW HT_.out HW_.out (by kernel_rfl)) (fun _ _ _ h=>h) (Or.inl ⟨by rfl,?_⟩) hHeld ?_ ?_
 rotate_left
 ·rintro w' ⟨s0,s1,s2⟩
  go_simp
  with_reducible rfl
 rotate_left
 ·simp only [Act.put,List.setIfInBounds_toArray,List.set_cons_zero,List.set_cons_succ,i64_w,i32_w]
  rfl
 refine take_ (i:=3) (N:=some 6) (v:=?_) (a':=?_) #[true,true,true,true,true,false,false,false,false] rfl rfl (take_ofW HT_.out HW_.out (by kernel_rfl)) (fun _ _ _ h=>h) (Or.inl ⟨by rfl,?_⟩) hHeld ?_ ?_
 rotate_left
 ·rintro w' ⟨s0,s1,s2⟩
  go_simp
  with_reducible rfl
 rotate_left
 ·simp only [Act.put,List.setIfInBounds_toArray,List.set_cons_zero,List.set_cons_succ,i64_w,i32_w]
  rfl
 refine take_ (i:=5) (N:=some 8) (v:=?_) (a':=?_) #[true,true,true,true,true,true,false,false,false] rfl rfl (take_ofW HT_.out HW_.out (by kernel_rfl)) (fun _ _ _ h=>h) (Or.inl ⟨by rfl,?_⟩) hHeld ?_ ?_
 rotate_left
 ·rintro w' ⟨s0,s1,s2⟩
  go_simp
  with_reducible rfl
 rotate_left
 ·simp only [Act.put,List.setIfInBounds_toArray,List.set_cons_zero,List.set_cons_succ,i64_w,i32_w]
  rfl
 refine one_ (i:=6) (N:=some 9) #[true,true,true,true,true,true,true,false,false] rfl rfl (one_of HT_.out (by kernel_rfl)) (by decide) (fun K hK=>?_)
 refine goes_ Tryz.func24 (by kernel_rfl) rfl #[.slice A0_2 l0_2.length c0_2] (by rfl) rfl rfl zE ?_
 with_reducible refine (stoaref01_Copy.calls k _ _ l0_2 t594 _ ?side1 ?side2 A2.out).mono ?_
 (case side1=>exact zC (Kd.C_below HR0_2.out HB.out))
 (case side2=>exact HC0_2.out)
 rintro e w6 ⟨v595,rfl,ho0,hb⟩
 refine ⟨_,rfl,?_⟩
 have n0_:=Aside0.mk (Kd.R_lower ho0 (below_size (by repeat (first | (with_reducible first | exact HB.out | apply below_alloc | apply pw_below_drewN | apply below_drew1 | refine below_set ?_ GE592.out | refine below_set ?_ GE593.out) | exact HB.out))))
 have n1_:=Aside0.mk (blk_below (g:=gb592) (o:=.cells #[.bool a0_0,.int .i64 a0_1,.slice A0_2 l0_2.length c0_2] 53 (0,0)) (by (with_reducible repeat (first | refine blk_drewN ?_ _ | refine blk_drew ?_ | refine blk_alloc ?_ _));exact BK592.out) hb)
 have n2_:=Aside0.mk (blk_below (g:=gb593) (o:=.cells #[.bool false,.int .i64 0,.slice none 0 0] 53 (0,0)) (by (with_reducible repeat (first | refine blk_drewN ?_ _ | refine blk_drew ?_ | refine blk_alloc ?_ _));exact BK593.out) hb)
 have n3_:=Aside0.mk (below_step (by repeat (first | (with_reducible first | exact HB.out | apply below_alloc | apply pw_below_drewN | apply below_drew1 | refine below_set ?_ GE592.out | refine below_set ?_ GE593.out) | exact HB.out)) hb)
 clear BK592
 clear BK593
 clear HB
 have HO596:=n0_
 have BK592:=n1_
 have BK593:=n2_
 have HB:=n3_
 clear n0_ n1_ n2_ n3_
 (try clear hb)
 (try clear hb2)
 (try clear hk)
 (try clear hi)
 (try clear ho0)
 obtain ⟨Ao7,co7,eo7⟩:=Kd.R_slice HO596.out
 (first | subst eo7 | (injection eo7 with f1_ f2_ f3_;have f4_:=f1_.symm;have f5_:=f3_.symm;clear f1_ f2_ f3_;subst f4_;subst f5_))
 refine hK.out _ _ ⟨(blk_cell BK592.out 0).trans rfl,(blk_cell BK592.out 1).trans rfl,(blk_cell BK592.out 2).trans rfl⟩ (fun hHeld=>?_)
 clear hK K
 refine norm_ (a':=?_) ?_ ?_
 rotate_left
 ·show Act.put _ (some 9) _ = _
  simp only [Act.put,List.setIfInBounds_toArray,List.set_cons_zero,List.set_cons_succ,i64_w,i32_w]
  rfl
 refine pure_ (i:=7) (N:=some 10) (v:=?_) (a':=?_) #[true,true,true,true,true,true,true,true,false] rfl rfl (any_of HT_.out (by kernel_rfl)) (fun _ _ _ h=>h) (Or.inl ⟨by rfl,?_⟩) ?_ ?_
 rotate_left
 ·intro w'
  go_simp
  with_reducible rfl
 rotate_left
 ·simp only [Act.put,List.setIfInBounds_toArray,List.set_cons_zero,List.set_cons_succ,i64_w,i32_w]
  rfl
 refine one_ (i:=8) (N:=none) #[true,true,true,true,true,true,true,true,true] rfl rfl (one_of HT_.out (by kernel_rfl)) (by decide) (fun K hK=>?_)
 have hs8:w6.cell? ⟨gb593,0,none⟩ = some (.bool false):=(blk_cell BK593.out 0).trans rfl
 have hfs8:=blk_frozen BK593.out 0
 have hns8_0:=NB592_593.out
 have hms8_0:=NB593_592.out
 have hs9:w6.cell? ⟨gb593,1,none⟩ = some (.int .i64 0):=(blk_cell BK593.out 1).trans rfl
 have hfs9:=blk_frozen BK593.out 1
 have hns9_0:=NB592_593.out
 have hms9_0:=NB593_592.out
 have hs10:w6.cell? ⟨gb593,2,none⟩ = some (.slice none 0 0):=(blk_cell BK593.out 2).trans rfl
 have hfs10:=blk_frozen BK593.out 2
 have hns10_0:=NB592_593.out
 have hms10_0:=NB593_592.out
 refine skip_ (w1:=?_) (by rfl) rfl ?_ ?_
 rotate_left
 ·go_simp
  rfl
 refine hK.out _ _ ⟨((cell_far (p:=⟨gb593,_,none⟩) NB592_593.out _).trans (((cell_far (p:=⟨gb593,_,none⟩) NB592_593.out _).trans (((cell_far (p:=⟨gb593,_,none⟩) NB592_593.out _).trans (hHeld.1)))))),((cell_far (p:=⟨gb593,_,none⟩) NB592_593.out _).trans (((cell_far (p:=⟨gb593,_,none⟩) NB592_593.out _).trans (((cell_far (p:=⟨gb593,_,none⟩) NB592_593.out _).trans (hHeld.2.1)))))),((cell_far (p:=⟨gb593,_,none⟩) NB592_593.out _).trans (((cell_far (p:=⟨gb593,_,none⟩) NB592_593.out _).trans (((cell_far (p:=⟨gb593,_,none⟩) NB592_593.out _).trans (hHeld.2.2))))))⟩ (fun hHeld=>?_)
 clear hK K
 refine done_ (done_of HT_.out (by kernel_rfl)) ?_
 try go_wp2
 refine bodyPost_ret (results_cell_row rfl _ _ gb593 53 #[.bool a0_0,.int .i64 a0_1,.slice Ao7 t594.length co7] (0,0) _ rfl (by (with_reducible repeat (first | refine blk_drewN ?_ _ | refine blk_drew ?_ | refine blk_alloc ?_ _));refine blk_put (cs:=#[.bool a0_0,.int .i64 a0_1,.slice none 0 0]) ?_ 2 _ rfl;(with_reducible repeat (first | refine blk_drewN ?_ _ | refine blk_drew ?_ | refine blk_alloc ?_ _));refine blk_put (cs:=#[.bool a0_0,.int .i64 0,.slice none 0 0]) ?_ 1 _ rfl;(with_reducible repeat (first | refine blk_drewN ?_ _ | refine blk_drew ?_ | refine blk_alloc ?_ _));refine blk_put (cs:=#[.bool false,.int .i64 0,.slice none 0 0]) ?_ 0 _ rfl;(with_reducible repeat (first | refine blk_drewN ?_ _ | refine blk_drew ?_ | refine blk_alloc ?_ _));exact BK593.out) Tryz.underlying53 rfl (by kernel_rfl)) rfl ?_
 exact ⟨_,zG,by (with_reducible repeat (first | apply Kd.R_alloc | apply Kd.R_drewN | apply Kd.R_drew));exact Kd.R_mono (Kd.R_far (p:=⟨gb593,2,none⟩) (Kd.R_far (p:=⟨gb593,1,none⟩) (Kd.R_far (p:=⟨gb593,0,none⟩) (Kd.R_types HO596.out BK593.out (by decide)) (fun _ hk=>hk.2) (.bool a0_0)) (fun _ hk=>hk.2) (.int .i64 a0_1)) (fun _ hk=>hk.2) (.slice Ao7 t594.length co7)) (fun _ hk=>trivial),by repeat (first | (with_reducible first | exact HB.out | apply below_alloc | apply pw_below_drewN | apply below_drew1 | refine below_set ?_ GE592.out | refine below_set ?_ GE593.out) | exact HB.out)⟩
def stoaref05_TwinRow.l0:Nat → List (S53) → List (S53) → Int → Option ((List (S53)))
 | 0,_,_,_=>none
 | k + 1,x0,x3,x4=>if x4 < (x0.length:Int) then (if 0 ≤ x4 then ((stoaref05_Twin.f k ((rd_T53 x0 x4).f0) ((rd_T53 x0 x4).f1) ((rd_T53 x0 x4).f2)).bind fun bt601=>(if x3.length < 3518437208883 then (stoaref05_TwinRow.l0 k x0 (x3 ++ [(⟨bt601.1,bt601.2.1,bt601.2.2⟩:S53)]) (wrap64 (x4 + 1))) else (none))) else (none)) else (some x3)
def stoaref05_TwinRow.f (k:Nat) (l0:List (S53)):Option ((List (S53))):=stoaref05_TwinRow.l0 k l0 (([]:List (S53))) 0
set_option maxHeartbeats 8000000 in
set_option maxRecDepth 100000 in
theorem stoaref05_TwinRow.calls (k:Nat) (A0:Option Addr) (c0:Nat) (l0:List (S53)) (r:List (S53)) (w:World) (hr0:Kd.C k53 w A0 l0.length l0) (hc0:l0.length ≤ c0) (h:stoaref05_TwinRow.f k l0 = some r) :
  Calls Tryz.prog 10 #[.slice A0 l0.length c0] w fun e w'=>∃ v0_:Value,e = .returned (v0_) ∧ Kd.S k53 53 w' w.heap.size (fun _=>True) v0_ r ∧ Below w.heap.size w w':=by
 have hu53:=Tryz.underlying53
 have HR0:=Aside0.mk hr0
 have HC0:=Aside0.mk hc0
 clear hr0 hc0
 have HB:=Aside0.mk (Below.refl w.heap.size w)
 have H:(stoaref05_TwinRow.l0 k l0 (([]:List (S53))) 0) = some r:=h
 clear h
 obtain ⟨y597,hy597⟩:∃ y_:List (S53),y_ = (([]:List (S53))):=⟨_,rfl⟩
 replace H:(stoaref05_TwinRow.l0 k l0 y597 0) = some r:=by first | (rw [hy597];with_reducible exact H) | (have H2_:=(Option.bind_some _ _).symm.trans H;rw [hy597];with_reducible exact H2_) | (have H2_:=(Option.bind_some _ _).symm.trans H;with_reducible exact H2_) | with_reducible exact H | (rw [hy597];exact H) | exact H
 have Ny597:=Aside0.mk hy597
 clear hy597
 have H':=Aside0.mk H
 clear H
 go_enter Tryz.func10,Tryz.ntmps10
 go_wp2_with (first | ((with_reducible refine gate_dst (N:=5) rfl ?_);refine Kd.S_lit k53 _ 53 ?hg (N:=5) ?hd (xs:=([]:List (S53))) (inner:=[]) (ok:=fun _=>True) (okp:=fun _=>True) ?hr ?hp (fun _ hk=>hk) trivial (Below.refl _ _) (Nat.le_refl _) (by simp) ?_;(case hd=>rfl);(case hg=>rfl);(case hr=>first | (go_simp;done) | (go_simp;rfl));(case hp=>exact (Reps.none _ _));intro v598 w2 ho3 hb hg_ hnew_;clear hg_ hnew_;(first | rw [← Ny597.out] at ho3 | (simp only [Int.reduceToNat] at ho3;rw [← Ny597.out] at ho3));have n0_:=Aside0.mk (Kd.S_lower ho3 (below_size zB));have n1_:=Aside0.mk (below_step zB hb);clear HB;have HO599:=n0_;have HB:=n1_;clear n0_ n1_;clear hb ho3))
 go_loopg [3,4] k (fun kq v3 v4 w'=>∃ (x3_1:List (S53)) (x4_1:Int),v4 = .int .i64 x4_1 ∧ Aside0 (stoaref05_TwinRow.l0 kq l0 x3_1 x4_1 = some r) ∧ Aside0 (kq ≤ k) ∧ Aside0 (Kd.S k53 53 w' w.heap.size (fun _=>True) v3 x3_1) ∧ Aside0 (Below w.heap.size w w'))
 case atStart=>exact ⟨(y597),(0),zF,H',⟨Nat.le_refl _⟩,⟨zS HO599.out⟩,⟨zB⟩⟩
 case round =>
  clear H'
  try clear c1
  try clear p2
  obtain ⟨x3_1,x4_1,rfl,HA,HK1,HO_3,HB⟩:=hrel
  cases gk with
  | zero=>exact absurd HA.out (by simp [stoaref05_TwinRow.l0])
  | succ k1 =>
   have H:=HA.out
   clear HA
   simp only [stoaref05_TwinRow.l0] at H
   by_cases c4:x4_1 < (l0.length:Int)
   ·rw [if_pos c4] at H
    have c4b0:=decide_eq_true c4
    clear c4
    by_cases c5:0 ≤ x4_1
    ·rw [if_pos c5] at H
     have c5b0:=decide_eq_true c5
     clear c5
     replace H:=Option.bind_eq_some_iff.mp H
     obtain ⟨⟨t601,t602,t603⟩,A60,H⟩:=H
     try dsimp only at H
     have A6:=Aside0.mk A60
     clear A60
     by_cases c7:x3_1.length < 3518437208883
     ·rw [if_pos c7] at H
      have LMc7:=Aside0.mk c7
      clear c7
      obtain ⟨y606,hy606⟩:∃ y_:List (S53),y_ = (x3_1 ++ [(⟨t601,t602,t603⟩:S53)]):=⟨_,rfl⟩
      replace H:(stoaref05_TwinRow.l0 k1 l0 y606 (wrap64 (x4_1 + 1))) = some r:=by first | (rw [hy606];with_reducible exact H) | (have H2_:=(Option.bind_some _ _).symm.trans H;rw [hy606];with_reducible exact H2_) | (have H2_:=(Option.bind_some _ _).symm.trans H;with_reducible exact H2_) | with_reducible exact H | (rw [hy606];exact H) | exact H
      have Ny606:=Aside0.mk hy606
      clear hy606
      have H':=Aside0.mk H
      clear H
      have p600:0 ≤ (x4_1:Int):=of_decide_eq_true zA
      have q600:x4_1 < (l0.length:Int):=of_decide_eq_true zA
      obtain ⟨ad600,A600_2,c600_2,e600,hx600_0,hx600_1,hx600_2,hl600_2,hi600_2⟩:=at_T53 HR0.out x4_1 p600 q600
      cases e600
      replace hx600_0:=(HB.out.cell (World.block_lt_of_cell? w _ hx600_0)).trans hx600_0
      replace hx600_1:=(HB.out.cell (World.block_lt_of_cell? w _ hx600_1)).trans hx600_1
      replace hx600_2:=(HB.out.cell (World.block_lt_of_cell? w _ hx600_2)).trans hx600_2
      have HR600_2:=Aside0.mk hi600_2
      have HC600_2:=Aside0.mk hl600_2
      clear hi600_2 hl600_2
      replace p600:=eq_true p600
      replace q600:=eq_true q600
      go_wp2_with (first | ((with_reducible refine gate_callee (f:=27) rfl ?_);refine goesL_ (some 17) rfl rfl Tryz.func27 (by kernel_rfl) rfl #[.agg #[.bool ((rd_T53 l0 x4_1).f0),.int .i64 ((rd_T53 l0 x4_1).f1),.slice A600_2 ((rd_T53 l0 x4_1).f2).length c600_2]] rfl zE ?_;(with_reducible refine (stoaref05_Twin.calls k1 ((rd_T53 l0 x4_1).f0) ((rd_T53 l0 x4_1).f1) _ _ ((rd_T53 l0 x4_1).f2) t601 t602 t603 _ ?side1 ?side2 A6.out).mono ?_);(case side1=>exact zC (Kd.C_below HR600_2.out HB.out));(case side2=>exact HC600_2.out);rintro e w8 ⟨v604,rfl,ho0,hb⟩;refine ⟨_,rfl,?_⟩;have n0_:=Aside0.mk (Kd.S_elder' (zS HO_3.out) (Kd.R_base ho0) hb);have n1_:=Aside0.mk (Kd.R_lower ho0 (below_size zB));have n2_:=Aside0.mk (below_step zB hb);clear HO_3;clear HB;have HO_3:=n0_;have HO605:=n1_;have HB:=n2_;clear n0_ n1_ n2_;(try clear hb);(try clear hb2);(try clear hk);(try clear hi);(try clear ho0);obtain ⟨Ao10,co10,eo10⟩:=Kd.R_slice HO605.out;subst eo10) | ((with_reducible refine gate_builtin (b:=.append) (xs:=#[.tmp 12,.tmp 18]) rfl ?_);at_builtin;refine Kd.S_append k53 (w0:=w) w.heap.size rfl (.tmp 12) (.tmp 18) 22 53 (.agg #[(.bool false),(.int .i64 0),(.slice none 0 0)]) 40 rfl Tryz.underlying22 info53 rfl (by decide) (by omega) u3 x3_1 (⟨t601,t602,t603⟩:S53) [.bool t601,.int .i64 t602,.slice Ao10 t603.length co10] (fun _=>True) (fun k_=>some k_ = (.slice Ao10 t603.length co10:Value).ownBlock) rfl rfl ?aP (fun k_ hk_=>((Kd.R_mono (ok':=fun k_=>((fun _=>True)) k_ ∧ some k_ ≠ (u3:Value).ownBlock) (Kd.R_apart' (HO605.out) (Kd.S_typed HO_3.out) (by decide)) (fun k_ hk=>⟨trivial,hk.2⟩))).1 k_ hk_.symm) ?aF ?aO ?aB ?aS ?aL ?_;(case aP=>exact k53_mkM _ _ _ (⟨t601,t602,t603⟩:S53) (Kd.R_mono (Kd.R_tight rfl (Kd.R_mono (ok':=fun k_=>((fun _=>True)) k_ ∧ some k_ ≠ (u3:Value).ownBlock) (Kd.R_apart' (HO605.out) (Kd.S_typed HO_3.out) (by decide)) (fun k_ hk=>⟨trivial,hk.2⟩))) (fun _ h_=>h_)));(case aB=>exact zB);(case aF=>exact fun _ _=>trivial);(case aO=>exact (by (with_reducible repeat (first | apply Kd.S_alloc | apply Kd.S_drewN | apply Kd.S_drew));exact Kd.S_mono HO_3.out (fun k_ hk=>⟨trivial,fun e_=>hk.2 e_⟩)));(case aS=>exact (below_size zB));(case aL=>have:=LMc7.out;omega);intro v607 w9 ho hb hg hat;rw [← Ny606.out] at ho;have n0_:=Aside0.mk (hb);have n1_:=Aside0.mk (ho);clear HB;clear HO_3;clear HO605;have HB:=n0_;have HO608:=n1_;clear n0_ n1_;clear ho hb hg hat))
      go_roundg k1
      case measure=>have:=HK1.out;omega
      case rel=>exact ⟨(y606),(wrap64 (x4_1 + 1)),zF,H',⟨by have:=HK1.out;omega⟩,⟨zS HO608.out⟩,⟨zB⟩⟩
     ·rw [if_neg c7] at H
      exact absurd H (by simp)
    ·rw [if_neg c5] at H
     exact absurd H (by simp)
   ·rw [if_neg c4] at H
    have c4b0:=decide_eq_false c4
    clear c4
    obtain rfl:=Option.some.inj H
    go_wp2
    go_ret
    exact ⟨_,zG,zS HO_3.out,zB⟩
def stoaref12_Fits.f (a0:Int) (a1:Int):Option (Bool):=if a1 = 1 then (some true) else (if a0 ≤ 6 then (if a1 = 2 then (some true) else (if a1 = 3 then (some true) else (if a0 > 6 then (if a1 = 4 then (some true) else (some (a1 == 5))) else (some false)))) else (if a0 > 6 then (if a1 = 4 then (some true) else (some (a1 == 5))) else (some false)))
set_option maxHeartbeats 8000000 in
set_option maxRecDepth 100000 in
theorem stoaref12_Fits.calls (a0:Int) (a1:Int) (r:Bool) (w:World) (h:stoaref12_Fits.f a0 a1 = some r) :
  Calls Tryz.prog 32 #[.int .i64 a0,.int .i64 a1] w fun e w'=>e = .returned (.bool r) ∧ Drawn0 w w':=by
 have H:(if a1 = 1 then (some true) else (if a0 ≤ 6 then (if a1 = 2 then (some true) else (if a1 = 3 then (some true) else (if a0 > 6 then (if a1 = 4 then (some true) else (some (a1 == 5))) else (some false)))) else (if a0 > 6 then (if a1 = 4 then (some true) else (some (a1 == 5))) else (some false)))) = some r:=h
 clear h
 by_cases c3:a1 = 1
 ·rw [if_pos c3] at H
  have c3b0:(a1 == 1) = true:=beq_iff_eq.mpr c3
  have c3b1:(a1 != 1) = false:=bne_eq_false_iff_eq.mpr c3
  clear c3
  obtain rfl:=Option.some.inj H
  go_enter Tryz.func32,Tryz.ntmps32
  go_wp2
  go_ret
  exact ⟨zF,zD⟩
 ·rw [if_neg c3] at H
  have c3b0:(a1 == 1) = false:=beq_eq_false_iff_ne.mpr c3
  have c3b1:(a1 != 1) = true:=bne_iff_ne.mpr c3
  by_cases c4:a0 ≤ 6
  ·rw [if_pos c4] at H
   have c4b0:=decide_eq_true c4
   clear c4
   by_cases c5:a1 = 2
   ·rw [if_pos c5] at H
    have c5b0:(a1 == 2) = true:=beq_iff_eq.mpr c5
    have c5b1:(a1 != 2) = false:=bne_eq_false_iff_eq.mpr c5
    clear c5
    obtain rfl:=Option.some.inj H
    go_enter Tryz.func32,Tryz.ntmps32
    go_wp2
    go_ret
    exact ⟨zF,zD⟩
   ·rw [if_neg c5] at H
    have c5b0:(a1 == 2) = false:=beq_eq_false_iff_ne.mpr c5
    have c5b1:(a1 != 2) = true:=bne_iff_ne.mpr c5
    by_cases c6:a1 = 3
    ·rw [if_pos c6] at H
     have c6b0:(a1 == 3) = true:=beq_iff_eq.mpr c6
     have c6b1:(a1 != 3) = false:=bne_eq_false_iff_eq.mpr c6
     clear c6
     obtain rfl:=Option.some.inj H
     go_enter Tryz.func32,Tryz.ntmps32
     go_wp2
     go_ret
     exact ⟨zF,zD⟩
    ·rw [if_neg c6] at H
     have c6b0:(a1 == 3) = false:=beq_eq_false_iff_ne.mpr c6
     have c6b1:(a1 != 3) = true:=bne_iff_ne.mpr c6
     by_cases c7:a0 > 6
     ·rw [if_pos c7] at H
      have c7b0:decide (6 < a0) = true:=decide_eq_true c7
      clear c7
      by_cases c8:a1 = 4
      ·rw [if_pos c8] at H
       have c8b0:(a1 == 4) = true:=beq_iff_eq.mpr c8
       have c8b1:(a1 != 4) = false:=bne_eq_false_iff_eq.mpr c8
       clear c8
       obtain rfl:=Option.some.inj H
       go_enter Tryz.func32,Tryz.ntmps32
       go_wp2
       go_ret
       exact ⟨zF,zD⟩
      ·rw [if_neg c8] at H
       have c8b0:(a1 == 4) = false:=beq_eq_false_iff_ne.mpr c8
       have c8b1:(a1 != 4) = true:=bne_iff_ne.mpr c8
       obtain rfl:=Option.some.inj H
       go_enter Tryz.func32,Tryz.ntmps32
       go_wp2
       go_ret
       exact ⟨zF,zD⟩
     ·rw [if_neg c7] at H
      have c7b0:decide (6 < a0) = false:=decide_eq_false c7
      clear c7
      obtain rfl:=Option.some.inj H
      go_enter Tryz.func32,Tryz.ntmps32
      go_wp2
      go_ret
      exact ⟨zF,zD⟩
  ·rw [if_neg c4] at H
   have c4b0:=decide_eq_false c4
   clear c4
   by_cases c9:a0 > 6
   ·rw [if_pos c9] at H
    have c9b0:decide (6 < a0) = true:=decide_eq_true c9
    clear c9
    by_cases c10:a1 = 4
    ·rw [if_pos c10] at H
     have c10b0:(a1 == 4) = true:=beq_iff_eq.mpr c10
     have c10b1:(a1 != 4) = false:=bne_eq_false_iff_eq.mpr c10
     clear c10
     obtain rfl:=Option.some.inj H
     go_enter Tryz.func32,Tryz.ntmps32
     go_wp2
     go_ret
     exact ⟨zF,zD⟩
    ·rw [if_neg c10] at H
     have c10b0:(a1 == 4) = false:=beq_eq_false_iff_ne.mpr c10
     have c10b1:(a1 != 4) = true:=bne_iff_ne.mpr c10
     obtain rfl:=Option.some.inj H
     go_enter Tryz.func32,Tryz.ntmps32
     go_wp2
     go_ret
     exact ⟨zF,zD⟩
   ·rw [if_neg c9] at H
    have c9b0:decide (6 < a0) = false:=decide_eq_false c9
    clear c9
    obtain rfl:=Option.some.inj H
    go_enter Tryz.func32,Tryz.ntmps32
    go_wp2
    go_ret
    exact ⟨zF,zD⟩
def stoaref05_Least.f (a0:Int):Option (Int):=if a0 = 1 then (some (-128)) else (if a0 = 2 then (some (-32768)) else (if a0 = 3 then (some (-2147483648)) else (if a0 = 4 then (some (-9223372036854775808)) else (some 0))))
set_option maxHeartbeats 8000000 in
set_option maxRecDepth 100000 in
theorem stoaref05_Least.calls (a0:Int) (r:Int) (w:World) (h:stoaref05_Least.f a0 = some r) :
  Calls Tryz.prog 91 #[.int .i64 a0] w fun e w'=>e = .returned (.int .i64 r) ∧ Drawn0 w w':=by
 have H:(if a0 = 1 then (some (-128)) else (if a0 = 2 then (some (-32768)) else (if a0 = 3 then (some (-2147483648)) else (if a0 = 4 then (some (-9223372036854775808)) else (some 0))))) = some r:=h
 clear h
 by_cases c2:a0 = 1
 ·rw [if_pos c2] at H
  have c2b0:(a0 == 1) = true:=beq_iff_eq.mpr c2
  have c2b1:(a0 != 1) = false:=bne_eq_false_iff_eq.mpr c2
  clear c2
  obtain rfl:=Option.some.inj H
  go_enter Tryz.func91,Tryz.ntmps91
  go_wp2
  go_ret
  exact ⟨zF,zD⟩
 ·rw [if_neg c2] at H
  have c2b0:(a0 == 1) = false:=beq_eq_false_iff_ne.mpr c2
  have c2b1:(a0 != 1) = true:=bne_iff_ne.mpr c2
  by_cases c3:a0 = 2
  ·rw [if_pos c3] at H
   have c3b0:(a0 == 2) = true:=beq_iff_eq.mpr c3
   have c3b1:(a0 != 2) = false:=bne_eq_false_iff_eq.mpr c3
   clear c3
   obtain rfl:=Option.some.inj H
   go_enter Tryz.func91,Tryz.ntmps91
   go_wp2
   go_ret
   exact ⟨zF,zD⟩
  ·rw [if_neg c3] at H
   have c3b0:(a0 == 2) = false:=beq_eq_false_iff_ne.mpr c3
   have c3b1:(a0 != 2) = true:=bne_iff_ne.mpr c3
   by_cases c4:a0 = 3
   ·rw [if_pos c4] at H
    have c4b0:(a0 == 3) = true:=beq_iff_eq.mpr c4
    have c4b1:(a0 != 3) = false:=bne_eq_false_iff_eq.mpr c4
    clear c4
    obtain rfl:=Option.some.inj H
    go_enter Tryz.func91,Tryz.ntmps91
    go_wp2
    go_ret
    exact ⟨zF,zD⟩
   ·rw [if_neg c4] at H
    have c4b0:(a0 == 3) = false:=beq_eq_false_iff_ne.mpr c4
    have c4b1:(a0 != 3) = true:=bne_iff_ne.mpr c4
    by_cases c5:a0 = 4
    ·rw [if_pos c5] at H
     have c5b0:(a0 == 4) = true:=beq_iff_eq.mpr c5
     have c5b1:(a0 != 4) = false:=bne_eq_false_iff_eq.mpr c5
     clear c5
     obtain rfl:=Option.some.inj H
     go_enter Tryz.func91,Tryz.ntmps91
     go_wp2
     go_ret
     exact ⟨zF,zD⟩
    ·rw [if_neg c5] at H
     have c5b0:(a0 == 4) = false:=beq_eq_false_iff_ne.mpr c5
     have c5b1:(a0 != 4) = true:=bne_iff_ne.mpr c5
     obtain rfl:=Option.some.inj H
     go_enter Tryz.func91,Tryz.ntmps91
     go_wp2
     go_ret
     exact ⟨zF,zD⟩
def stoaref05_Greatest.f (a0:Int):Option (Int):=if a0 = 1 then (some 127) else (if a0 = 2 then (some 32767) else (if a0 = 3 then (some 2147483647) else (if a0 = 4 then (some 9223372036854775807) else (if a0 = 5 then (some 65535) else (some 1)))))
set_option maxHeartbeats 8000000 in
set_option maxRecDepth 100000 in
theorem stoaref05_Greatest.calls (a0:Int) (r:Int) (w:World) (h:stoaref05_Greatest.f a0 = some r) :
  Calls Tryz.prog 92 #[.int .i64 a0] w fun e w'=>e = .returned (.int .i64 r) ∧ Drawn0 w w':=by
 have H:(if a0 = 1 then (some 127) else (if a0 = 2 then (some 32767) else (if a0 = 3 then (some 2147483647) else (if a0 = 4 then (some 9223372036854775807) else (if a0 = 5 then (some 65535) else (some 1)))))) = some r:=h
 clear h
 by_cases c2:a0 = 1
 ·rw [if_pos c2] at H
  have c2b0:(a0 == 1) = true:=beq_iff_eq.mpr c2
  have c2b1:(a0 != 1) = false:=bne_eq_false_iff_eq.mpr c2
  clear c2
  obtain rfl:=Option.some.inj H
  go_enter Tryz.func92,Tryz.ntmps92
  go_wp2
  go_ret
  exact ⟨zF,zD⟩
 ·rw [if_neg c2] at H
  have c2b0:(a0 == 1) = false:=beq_eq_false_iff_ne.mpr c2
  have c2b1:(a0 != 1) = true:=bne_iff_ne.mpr c2
  by_cases c3:a0 = 2
  ·rw [if_pos c3] at H
   have c3b0:(a0 == 2) = true:=beq_iff_eq.mpr c3
   have c3b1:(a0 != 2) = false:=bne_eq_false_iff_eq.mpr c3
   clear c3
   obtain rfl:=Option.some.inj H
   go_enter Tryz.func92,Tryz.ntmps92
   go_wp2
   go_ret
   exact ⟨zF,zD⟩
  ·rw [if_neg c3] at H
   have c3b0:(a0 == 2) = false:=beq_eq_false_iff_ne.mpr c3
   have c3b1:(a0 != 2) = true:=bne_iff_ne.mpr c3
   by_cases c4:a0 = 3
   ·rw [if_pos c4] at H
    have c4b0:(a0 == 3) = true:=beq_iff_eq.mpr c4
    have c4b1:(a0 != 3) = false:=bne_eq_false_iff_eq.mpr c4
    clear c4
    obtain rfl:=Option.some.inj H
    go_enter Tryz.func92,Tryz.ntmps92
    go_wp2
    go_ret
    exact ⟨zF,zD⟩
   ·rw [if_neg c4] at H
    have c4b0:(a0 == 3) = false:=beq_eq_false_iff_ne.mpr c4
    have c4b1:(a0 != 3) = true:=bne_iff_ne.mpr c4
    by_cases c5:a0 = 4
    ·rw [if_pos c5] at H
     have c5b0:(a0 == 4) = true:=beq_iff_eq.mpr c5
     have c5b1:(a0 != 4) = false:=bne_eq_false_iff_eq.mpr c5
     clear c5
     obtain rfl:=Option.some.inj H
     go_enter Tryz.func92,Tryz.ntmps92
     go_wp2
     go_ret
     exact ⟨zF,zD⟩
    ·rw [if_neg c5] at H
     have c5b0:(a0 == 4) = false:=beq_eq_false_iff_ne.mpr c5
     have c5b1:(a0 != 4) = true:=bne_iff_ne.mpr c5
     by_cases c6:a0 = 5
     ·rw [if_pos c6] at H
      have c6b0:(a0 == 5) = true:=beq_iff_eq.mpr c6
      have c6b1:(a0 != 5) = false:=bne_eq_false_iff_eq.mpr c6
      clear c6
      obtain rfl:=Option.some.inj H
      go_enter Tryz.func92,Tryz.ntmps92
      go_wp2
      go_ret
      exact ⟨zF,zD⟩
     ·rw [if_neg c6] at H
      have c6b0:(a0 == 5) = false:=beq_eq_false_iff_ne.mpr c6
      have c6b1:(a0 != 5) = true:=bne_iff_ne.mpr c6
      obtain rfl:=Option.some.inj H
      go_enter Tryz.func92,Tryz.ntmps92
      go_wp2
      go_ret
      exact ⟨zF,zD⟩
def stoaref05_Zero.l0:Nat → List Int → Int → Option (Bool)
 | 0,_,_=>none
 | k + 1,x0,x3=>if x3 < (x0.length:Int) then (if 0 ≤ x3 then (if (rd x0 x3) = 0 then (some true) else (stoaref05_Zero.l0 k x0 (wrap64 (x3 + 1)))) else (none)) else (some false)
def stoaref05_Zero.f (k:Nat) (l0:List Int):Option (Bool):=stoaref05_Zero.l0 k l0 0
set_option maxHeartbeats 8000000 in
set_option maxRecDepth 100000 in
theorem stoaref05_Zero.calls (k:Nat) (A0:Option Addr) (c0:Nat) (l0:List Int) (r:Bool) (w:World) (hr0:Kd.C (Kd.int .u8) w A0 l0.length l0) (hc0:l0.length ≤ c0) (h:stoaref05_Zero.f k l0 = some r) :
  Calls Tryz.prog 93 #[.slice A0 l0.length c0] w fun e w'=>e = .returned (.bool r) ∧ Drawn0 w w':=by
 have HR0:=Aside0.mk hr0
 have HC0:=Aside0.mk hc0
 clear hr0 hc0
 have H:(stoaref05_Zero.l0 k l0 0) = some r:=h
 clear h
 have H':=Aside0.mk H
 clear H
 go_enter Tryz.func93,Tryz.ntmps93
 go_wp2
 go_loopg [3] k (fun kq v3 w'=>∃ (x3_1:Int),v3 = .int .i64 x3_1 ∧ Aside0 (stoaref05_Zero.l0 kq l0 x3_1 = some r) ∧ Aside0 (kq ≤ k) ∧ Drawn0 w w')
 case atStart=>exact ⟨(0),zF,H',⟨Nat.le_refl _⟩,zD⟩
 case round =>
  clear H'
  obtain ⟨x3_1,rfl,HA,HK1,⟨m1,rfl⟩⟩:=hrel
  cases gk with
  | zero=>exact absurd HA.out (by simp [stoaref05_Zero.l0])
  | succ k1 =>
   have H:=HA.out
   clear HA
   simp only [stoaref05_Zero.l0] at H
   by_cases c2:x3_1 < (l0.length:Int)
   ·rw [if_pos c2] at H
    have c2b0:=decide_eq_true c2
    clear c2
    by_cases c3:0 ≤ x3_1
    ·rw [if_pos c3] at H
     have c3b0:=decide_eq_true c3
     clear c3
     by_cases c4:(rd l0 x3_1) = 0
     ·rw [if_pos c4] at H
      have c4b0:((rd l0 x3_1) == 0) = true:=beq_iff_eq.mpr c4
      have c4b1:((rd l0 x3_1) != 0) = false:=bne_eq_false_iff_eq.mpr c4
      clear c4
      obtain rfl:=Option.some.inj H
      have p609:0 ≤ (x3_1:Int):=of_decide_eq_true zA
      have q609:x3_1 < (l0.length:Int):=of_decide_eq_true zA
      obtain ⟨ad609,e609,hx609_0⟩:=Kd.at_int HR0.out x3_1 p609 q609
      cases e609
      replace p609:=eq_true p609
      replace q609:=eq_true q609
      go_wp2
      go_ret
      exact ⟨zF,zD⟩
     ·rw [if_neg c4] at H
      have c4b0:((rd l0 x3_1) == 0) = false:=beq_eq_false_iff_ne.mpr c4
      have c4b1:((rd l0 x3_1) != 0) = true:=bne_iff_ne.mpr c4
      have H':=Aside0.mk H
      clear H
      have p609:0 ≤ (x3_1:Int):=of_decide_eq_true zA
      have q609:x3_1 < (l0.length:Int):=of_decide_eq_true zA
      obtain ⟨ad609,e609,hx609_0⟩:=Kd.at_int HR0.out x3_1 p609 q609
      cases e609
      replace p609:=eq_true p609
      replace q609:=eq_true q609
      go_wp2
      go_roundg k1
      case measure=>have:=HK1.out;omega
      case rel=>exact ⟨(wrap64 (x3_1 + 1)),zF,H',⟨by have:=HK1.out;omega⟩,zD⟩
    ·rw [if_neg c3] at H
     exact absurd H (by simp)
   ·rw [if_neg c2] at H
    have c2b0:=decide_eq_false c2
    clear c2
    obtain rfl:=Option.some.inj H
    go_wp2
    go_ret
    exact ⟨zF,zD⟩
end Go.Proofs.YteeikgjjgfdjgaaGreat.PK
end
