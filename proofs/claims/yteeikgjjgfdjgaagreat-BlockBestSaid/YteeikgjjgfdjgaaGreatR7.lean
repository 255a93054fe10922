/-
  Parts of the proof: E11, E7.
-/
import Derived.Test.YteeikgjjgfdjgaaGreatR3
import Derived.Test.YteeikgjjgfdjgaaGreatR6
section
namespace Go.Proofs.YteeikgjjgfdjgaaGreat.PK
open Go.RowKit Go.Proofs.YteeikgjjgfdjgaaGreatW.PrintWords Go.Proofs.YteeikgjjgfdjgaaGreatW.PrintLast Go.Proofs.YteeikgjjgfdjgaaGreatW.PrintMore
attribute [local go_sem] max2_int min2_int max_two min_two max_three min_three max_four min_four
set_option linter.unusedVariables false
set_option linter.unusedSimpArgs false
mutual
def stoaref01_Pack.j0:Nat → Int → List Int → Bool → Option (List Int × Int)
 | 0,_,_,_=>none
 | k + 1,x0,x1,x16=>if x16 = true then (some (([]:List Int),1)) else (if (x1.length:Int) > 4096 then (some (([]:List Int),4)) else ((stoaref01_Width.f k x1).bind fun t630=>(if t630 > x0 then (some (([]:List Int),10)) else (stoaref01_Pack.l0 k x0 x1 (([]:List Int)) 0 0))))
def stoaref01_Pack.l0:Nat → Int → List Int → List Int → Int → Int → Option (List Int × Int)
 | 0,_,_,_,_,_=>none
 | k + 1,x0,x1,x6,x7,x8=>if x8 < (x1.length:Int) then (if 0 ≤ x8 then (stoaref01_Pack.l1 k x0 x1 x6 x7 x8 (rd x1 x8) 0) else (none)) else (some (x6,0))
def stoaref01_Pack.l1:Nat → Int → List Int → List Int → Int → Int → Int → Int → Option (List Int × Int)
 | 0,_,_,_,_,_,_,_=>none
 | k + 1,x0,x1,x6,x7,x8,x9,x10=>if x10 < x0 then (if (Int.tmod x7 8) = 0 then (if x6.length < 140737488355328 then ((some (x6 ++ [0]:List Int)).bind fun y635=>(if 0 ≤ (wrap64 (Int.tdiv x7 8)) then (if (wrap64 (Int.tdiv x7 8)) < (y635.length:Int) then ((stoaref01_power.f k (Int.tmod x7 8)).bind fun t639=>(stoaref01_Pack.l1 k x0 x1 (y635.set ((wrap64 (Int.tdiv x7 8)):Int).toNat (((rd y635 (wrap64 (Int.tdiv x7 8))) + ((IntKind.u64.wrap ((Int.tmod x9 2) * t639)) % 256)) % 256)) (wrap64 (x7 + 1)) x8 (IntKind.u64.wrap (Int.tdiv x9 2)) (wrap64 (x10 + 1)))) else (none)) else (none))) else (none)) else (if 0 ≤ (wrap64 (Int.tdiv x7 8)) then (if (wrap64 (Int.tdiv x7 8)) < (x6.length:Int) then ((stoaref01_power.f k (Int.tmod x7 8)).bind fun t642=>(stoaref01_Pack.l1 k x0 x1 (x6.set ((wrap64 (Int.tdiv x7 8)):Int).toNat (((rd x6 (wrap64 (Int.tdiv x7 8))) + ((IntKind.u64.wrap ((Int.tmod x9 2) * t642)) % 256)) % 256)) (wrap64 (x7 + 1)) x8 (IntKind.u64.wrap (Int.tdiv x9 2)) (wrap64 (x10 + 1)))) else (none)) else (none))) else (stoaref01_Pack.l0 k x0 x1 x6 x7 (wrap64 (x8 + 1)))
end
def stoaref01_Pack.f (k:Nat) (a0:Int) (l1:List Int):Option (List Int × Int):=if a0 < 0 then (stoaref01_Pack.j0 k a0 l1 true) else (stoaref01_Pack.j0 k a0 l1 (decide (a0 > 64)))
def stoaref01_Pack.T18:Bool × List (List Nat × List Nat):=(true,[([],[]),([],[]),([1],[1]),([],[]),([],[]),([4],[4]),([3,5],[3,5]),([6],[6]),([],[]),([8],[8]),([],[]),([10],[10]),([11],[11]),([9,12],[9,12]),([13],[13]),([7,14],[7,14]),([0,2,0,1,2,3,4,5,6,7,8,9,10,11,12,13,14,15],[0,2]),([16,15,12,0,1,2,3,4,5,6,7,8,9,10,11,12,13,14,15],[15,16])])
def stoaref01_Pack.B18:List Nat:=[0,0,2,0,0,16,56,120,0,256,0,1024,3072,7936,16128,32760,65535,131071]
theorem stoaref01_Pack.tab18:rtab .any (opsOf Tryz.f59 18) = stoaref01_Pack.T18:=by kernel_rfl
theorem stoaref01_Pack.bits18:waitsOk stoaref01_Pack.T18.2 stoaref01_Pack.B18 = true:=by kernel_rfl
set_option maxHeartbeats 8000000 in
set_option maxRecDepth 100000 in
theorem stoaref01_Pack.calls (k:Nat) (a0:Int) (A1:Option Addr) (c1:Nat) (l1:List Int) (r1:List Int) (r2:Int) (w:World) (hr1:Kd.C (Kd.int .u64) w A1 l1.length l1) (hc1:l1.length ≤ c1) (h:stoaref01_Pack.f k a0 l1 = some (r1,r2)) :
  Calls Tryz.prog 59 #[.int .i64 a0,.slice A1 l1.length c1] w fun e w'=>∃ v0_:Value,e = .returned (.tuple #[v0_,.int .i64 r2]) ∧ Kd.R (Kd.int .u8) 5 w' w.heap.size (fun _=>True) v0_ r1 ∧ Below w.heap.size w w':=by
 have HR1:=Aside0.mk hr1
 have HC1:=Aside0.mk hc1
 clear hr1 hc1
 have HB:=Aside0.mk (Below.refl w.heap.size w)
 have H:(if a0 < 0 then (stoaref01_Pack.j0 k a0 l1 true) else (stoaref01_Pack.j0 k a0 l1 (decide (a0 > 64)))) = some (r1,r2):=h
 clear h
 have HC3:=Aside0.mk H
 clear H
 go_enter Tryz.func59,Tryz.ntmps59
 go_upto_region 1 with (fail)
 go_cut [16] (fun v16 wc=>∃ (kq:Nat) (x16_2:Bool),v16 = .bool x16_2 ∧ Aside0 (stoaref01_Pack.j0 kq a0 l1 x16_2 = some (r1,r2)) ∧ Aside0 (kq ≤ k) ∧ Aside0 (Below w.heap.size w wc))
 case first =>
  have H:=HC3.out
  clear HC3
  by_cases c4:a0 < 0
  ·rw [if_pos c4] at H
   have c4b0:=decide_eq_true c4
   clear c4
   (first | rw [c4b0] | (simp only [i64_w,i32_w];rw [c4b0]) | skip)
   have H':=Aside0.mk H
   clear H
   go_wp2
   go_meet
   case rel=>exact ⟨_,(true),zF,H',⟨by first | omega | exact Nat.le_refl _⟩,⟨zB⟩⟩
  ·rw [if_neg c4] at H
   have c4b0:=decide_eq_false c4
   clear c4
   (first | rw [c4b0] | (simp only [i64_w,i32_w];rw [c4b0]) | skip)
   have H':=Aside0.mk H
   clear H
   go_wp2
   go_meet
   case rel=>exact ⟨_,(decide (a0 > 64)),zF,H',⟨by first | omega | exact Nat.le_refl _⟩,⟨zB⟩⟩
 case rest =>
  clear HC3
  try clear c1
  try clear p2
  try clear c4
  try clear c4b0
  obtain ⟨kq,x16_2,rfl,HA,HJ2,HB⟩:=hcut
  cases kq with
  | zero=>exact absurd HA.out (by simp [stoaref01_Pack.j0])
  | succ kj2 =>
   have H:=HA.out
   clear HA
   simp only [stoaref01_Pack.j0] at H
   by_cases c5:x16_2 = true
   ·subst c5
    have H1:(some (([]:List Int),1)) = some (r1,r2):=by rw [if_pos rfl] at H;exact H
    clear H
    have H:=H1
    clear H1
    simp only [Option.some.injEq,Prod.mk.injEq] at H
    obtain ⟨rfl,rfl⟩:=H
    go_wp2
    go_ret2
    exact ⟨_,zG,zN,zB⟩
   ·replace c5:=Bool.eq_false_iff.mpr c5
    subst c5
    have H1:(if (l1.length:Int) > 4096 then (some (([]:List Int),4)) else ((stoaref01_Width.f kj2 l1).bind fun t630=>(if t630 > a0 then (some (([]:List Int),10)) else (stoaref01_Pack.l0 kj2 a0 l1 (([]:List Int)) 0 0)))) = some (r1,r2):=by rw [if_neg (show ¬ (false = true) by decide)] at H;exact H
    clear H
    have H:=H1
    clear H1
    by_cases c6:(l1.length:Int) > 4096
    ·rw [if_pos c6] at H
     have c6b0:decide (4096 < (l1.length:Int)) = true:=decide_eq_true c6
     have c6b1:decide (4096 < l1.length) = true:=decide_eq_true (by omega)
     clear c6
     simp only [Option.some.injEq,Prod.mk.injEq] at H
     obtain ⟨rfl,rfl⟩:=H
     go_wp2
     go_ret2
     exact ⟨_,zG,zN,zB⟩
    ·rw [if_neg c6] at H
     have c6b0:decide (4096 < (l1.length:Int)) = false:=decide_eq_false c6
     have c6b1:decide (4096 < l1.length) = false:=decide_eq_false (by omega)
     clear c6
     replace H:=Option.bind_eq_some_iff.mp H
     obtain ⟨t630,A70,H⟩:=H
     try dsimp only at H
     have A7:=Aside0.mk A70
     clear A70
     by_cases c8:t630 > a0
     ·rw [if_pos c8] at H
      have c8b0:decide (a0 < t630) = true:=decide_eq_true c8
      clear c8
      simp only [Option.some.injEq,Prod.mk.injEq] at H
      obtain ⟨rfl,rfl⟩:=H
      go_wp2_with (first | ((with_reducible refine gate_callee (f:=74) rfl ?_);refine goesL_ (some 21) rfl rfl Tryz.func74 (by kernel_rfl) rfl #[.slice A1 l1.length c1] rfl zE ?_;(with_reducible refine (stoaref01_Width.calls kj2 _ _ l1 t630 _ ?side1 ?side2 A7.out).mono ?_);(case side1=>exact zC (Kd.C_below HR1.out HB.out));(case side2=>exact HC1.out);rintro e w' ⟨rfl,⟨nd,rfl⟩⟩;refine ⟨_,rfl,?_⟩))
      go_ret2
      exact ⟨_,zG,zN,zB⟩
     ·rw [if_neg c8] at H
      have c8b0:decide (a0 < t630) = false:=decide_eq_false c8
      clear c8
      obtain ⟨y631,hy631⟩:∃ y_:List Int,y_ = (([]:List Int)):=⟨_,rfl⟩
      replace H:(stoaref01_Pack.l0 kj2 a0 l1 y631 0 0) = some (r1,r2):=by first | (rw [hy631];with_reducible exact H) | (have H2_:=(Option.bind_some _ _).symm.trans H;rw [hy631];with_reducible exact H2_) | (have H2_:=(Option.bind_some _ _).symm.trans H;with_reducible exact H2_) | with_reducible exact H | (rw [hy631];exact H) | exact H
      have Ny631:=Aside0.mk hy631
      clear hy631
      have H':=Aside0.mk H
      clear H
      go_wp2_with (first | ((with_reducible refine gate_callee (f:=74) rfl ?_);refine goesL_ (some 21) rfl rfl Tryz.func74 (by kernel_rfl) rfl #[.slice A1 l1.length c1] rfl zE ?_;(with_reducible refine (stoaref01_Width.calls kj2 _ _ l1 t630 _ ?side1 ?side2 A7.out).mono ?_);(case side1=>exact zC (Kd.C_below HR1.out HB.out));(case side2=>exact HC1.out);rintro e w' ⟨rfl,⟨nd,rfl⟩⟩;refine ⟨_,rfl,?_⟩) | ((with_reducible refine gate_dst (N:=24) rfl ?_);refine Kd.R_lit (Kd.int .u8) _ 5 ?hg (N:=24) ?hd (xs:=([]:List Int)) (inner:=[]) (ok:=fun _=>True) (okp:=fun _=>True) ?hr ?hp (fun _ hk=>hk) trivial (Below.refl _ _) (Nat.le_refl _) (by simp) ?_;(case hd=>rfl);(case hg=>rfl);(case hr=>first | (go_simp;done) | (go_simp;rfl));(case hp=>exact (Reps.none _ _));intro v632 w9 ho10 hb hg_ hnew_;clear hg_ hnew_;(first | rw [← Ny631.out] at ho10 | (simp only [Int.reduceToNat] at ho10;rw [← Ny631.out] at ho10));have n0_:=Aside0.mk (Kd.R_lower ho10 (below_size zB));have n1_:=Aside0.mk (below_step zB hb);clear HB;have HO633:=n0_;have HB:=n1_;clear n0_ n1_;clear hb ho10))
      go_loopg [6,7,8] kj2 (fun kq v6 v7 v8 w'=>∃ (x6_2:List Int) (x7_2:Int) (x8_2:Int),v7 = .int .i64 x7_2 ∧ v8 = .int .i64 x8_2 ∧ Aside0 (stoaref01_Pack.l0 kq a0 l1 x6_2 x7_2 x8_2 = some (r1,r2)) ∧ Aside0 (kq ≤ kj2) ∧ Aside0 (Kd.R (Kd.int .u8) 5 w' w.heap.size (fun _=>True) v6 x6_2) ∧ Aside0 (Below w.heap.size w w'))
      case atStart=>exact ⟨(y631),(0),(0),zF,zF,H',⟨Nat.le_refl _⟩,⟨zR HO633.out⟩,⟨zB⟩⟩
      case round =>
       clear H'
       try clear c1
       try clear p2
       try clear c4
       try clear c4b0
       try clear c5
       try clear c6
       try clear c6b0
       try clear c6b1
       try clear c7
       try clear c8
       try clear c8b0
       try clear p2
       obtain ⟨x6_2,x7_2,x8_2,rfl,rfl,HA,HK2,HO_6,HB⟩:=hrel
       cases gk with
       | zero=>exact absurd HA.out (by simp [stoaref01_Pack.l0])
       | succ k2 =>
        have H:=HA.out
        clear HA
        simp only [stoaref01_Pack.l0] at H
        by_cases c11:x8_2 < (l1.length:Int)
        ·rw [if_pos c11] at H
         have c11b0:=decide_eq_true c11
         clear c11
         by_cases c12:0 ≤ x8_2
         ·rw [if_pos c12] at H
          have c12b0:=decide_eq_true c12
          clear c12
          have H':=Aside0.mk H
          clear H
          have p634:0 ≤ (x8_2:Int):=of_decide_eq_true zA
          have q634:x8_2 < (l1.length:Int):=of_decide_eq_true zA
          obtain ⟨ad634,e634,hx634_0⟩:=Kd.at_int HR1.out x8_2 p634 q634
          cases e634
          replace hx634_0:=(HB.out.cell (World.block_lt_of_cell? w _ hx634_0)).trans hx634_0
          replace p634:=eq_true p634
          replace q634:=eq_true q634
          go_wp2
          go_loopg [6,7,9,10] k2 (fun kq v6 v7 v9 v10 w'=>∃ (x6_3:List Int) (x7_3:Int) (x9_3:Int) (x10_3:Int),v7 = .int .i64 x7_3 ∧ v9 = .int .u64 x9_3 ∧ v10 = .int .i64 x10_3 ∧ Aside0 (stoaref01_Pack.l1 kq a0 l1 x6_3 x7_3 x8_2 x9_3 x10_3 = some (r1,r2)) ∧ Aside0 (kq ≤ k2) ∧ Aside0 (Kd.R (Kd.int .u8) 5 w' w.heap.size (fun _=>True) v6 x6_3) ∧ Aside0 (Below w.heap.size w w'))
          case atStart=>exact ⟨(x6_2),(x7_2),(rd l1 x8_2),(0),zF,zF,zF,H',⟨Nat.le_refl _⟩,⟨zR HO_6.out⟩,⟨zB⟩⟩
          case round =>
           clear H'
           try clear c1
           try clear p2
           try clear c4
           try clear c4b0
           try clear c5
           try clear c6
           try clear c6b0
           try clear c6b1
           try clear p6
           try clear q6
           try clear hx6
           try clear c7
           try clear c8
           try clear c8b0
           try clear c11
           try clear c11b0
           try clear c12
           try clear c12b0
           try clear hx634_0
           try clear p2
           try clear p634
           try clear q634
           obtain ⟨x6_3,x7_3,x9_3,x10_3,rfl,rfl,rfl,HA,HK3,HO_6,HB⟩:=hrel
           cases gk with
           | zero=>exact absurd HA.out (by simp [stoaref01_Pack.l1])
           | succ k3 =>
            have H:=HA.out
            clear HA
            simp only [stoaref01_Pack.l1] at H
            by_cases c13:x10_3 < a0
            ·rw [if_pos c13] at H
             have c13b0:=decide_eq_true c13
             clear c13
             by_cases c14:(Int.tmod x7_3 8) = 0
             ·rw [if_pos c14] at H
              have c14b0:((Int.tmod x7_3 8) == 0) = true:=beq_iff_eq.mpr c14
              have c14b1:((Int.tmod x7_3 8) != 0) = false:=bne_eq_false_iff_eq.mpr c14
              clear c14
              by_cases c15:x6_3.length < 140737488355328
              ·rw [if_pos c15] at H
               have LMc15:=Aside0.mk c15
               clear c15
               obtain ⟨y635,hy635⟩:∃ y_:List Int,y_ = (x6_3 ++ [0]):=⟨_,rfl⟩
               replace H:(if 0 ≤ (wrap64 (Int.tdiv x7_3 8)) then (if (wrap64 (Int.tdiv x7_3 8)) < (y635.length:Int) then ((stoaref01_power.f k3 (Int.tmod x7_3 8)).bind fun t639=>(stoaref01_Pack.l1 k3 a0 l1 (y635.set ((wrap64 (Int.tdiv x7_3 8)):Int).toNat (((rd y635 (wrap64 (Int.tdiv x7_3 8))) + ((IntKind.u64.wrap ((Int.tmod x9_3 2) * t639)) % 256)) % 256)) (wrap64 (x7_3 + 1)) x8_2 (IntKind.u64.wrap (Int.tdiv x9_3 2)) (wrap64 (x10_3 + 1)))) else (none)) else (none)) = some (r1,r2):=by first | (rw [hy635];with_reducible exact H) | (have H2_:=(Option.bind_some _ _).symm.trans H;rw [hy635];with_reducible exact H2_) | (have H2_:=(Option.bind_some _ _).symm.trans H;with_reducible exact H2_) | with_reducible exact H | (rw [hy635];exact H) | exact H
               have Ny635:=Aside0.mk hy635
               clear hy635
               obtain ⟨ji16,hji16⟩:∃ j_:Int,(wrap64 (Int.tdiv x7_3 8)) = j_:=⟨_,rfl⟩
               replace H:(if 0 ≤ (ji16) then (if (ji16) < (y635.length:Int) then ((stoaref01_power.f k3 (Int.tmod x7_3 8)).bind fun t639=>(stoaref01_Pack.l1 k3 a0 l1 (y635.set ((ji16):Int).toNat (((rd y635 (ji16)) + ((IntKind.u64.wrap ((Int.tmod x9_3 2) * t639)) % 256)) % 256)) (wrap64 (x7_3 + 1)) x8_2 (IntKind.u64.wrap (Int.tdiv x9_3 2)) (wrap64 (x10_3 + 1)))) else (none)) else (none)) = some (r1,r2):=by first | (rw [hji16] at H;exact H) | (simp only [hji16] at H ⊢;exact H)
               have hji16w:(IntKind.i64.wrap (Int.tdiv x7_3 8)) = ji16:=(i64_w _).trans hji16
               by_cases c17:0 ≤ (ji16)
               ·rw [if_pos c17] at H
                have c17b0:=decide_eq_true c17
                clear c17
                by_cases c18:(ji16) < (y635.length:Int)
                ·rw [if_pos c18] at H
                 have c18b0:=decide_eq_true c18
                 clear c18
                 replace H:=Option.bind_eq_some_iff.mp H
                 obtain ⟨t639,A190,H⟩:=H
                 try dsimp only at H
                 have A19:=Aside0.mk A190
                 clear A190
                 obtain ⟨y640,hy640⟩:∃ y_:List Int,y_ = (y635.set ((ji16):Int).toNat (((rd y635 (ji16)) + ((IntKind.u64.wrap ((Int.tmod x9_3 2) * t639)) % 256)) % 256)):=⟨_,rfl⟩
                 replace H:(stoaref01_Pack.l1 k3 a0 l1 y640 (wrap64 (x7_3 + 1)) x8_2 (IntKind.u64.wrap (Int.tdiv x9_3 2)) (wrap64 (x10_3 + 1))) = some (r1,r2):=by first | (rw [hy640];with_reducible exact H) | (have H2_:=(Option.bind_some _ _).symm.trans H;rw [hy640];with_reducible exact H2_) | (have H2_:=(Option.bind_some _ _).symm.trans H;with_reducible exact H2_) | with_reducible exact H | (rw [hy640];exact H) | exact H
                 have Ny640:=Aside0.mk hy640
                 clear hy640
                 have H':=Aside0.mk H
                 clear H
                 try go_wp2_with (first | ((with_reducible refine gate_builtin (b:=.append) (xs:=#[.tmp 43,.tmp 44]) rfl ?_);at_builtin;refine Kd.R_append (Kd.int .u8) (w0:=w) w.heap.size rfl (.tmp 43) (.tmp 44) 25 5 (.int .u8 0) 1 rfl Tryz.underlying25 info5 rfl (by decide) (by omega) u6 x6_3 0 [.int .u8 0] (fun _=>True) (fun _=>False) rfl rfl ?aP (fun _ hk=>hk.elim) ?aF ?aO ?aB ?aS ?aL ?_;(case aP=>exact rfl);(case aB=>exact zB);(case aF=>exact fun _ _=>trivial);(case aO=>exact (zR HO_6.out));(case aS=>exact (below_size zB));(case aL=>have:=LMc15.out;omega);intro v636 w21 ho hb hg hat;rw [← Ny635.out] at ho;have n0_:=Aside0.mk (hb);have n1_:=Aside0.mk (ho);clear HB;clear HO_6;have HB:=n0_;have HO637:=n1_;clear n0_ n1_;clear ho hb hg hat))
                 have n0_:=Aside0.mk (Kd.R_drew HO637.out)
                 have n1_:=Aside0.mk (below_drew1 HB.out)
                 clear HO637
                 clear HB
                 have HO637:=n0_
                 have HB:=n1_
                 clear n0_ n1_
                 obtain ⟨Ao23,co23,eo23⟩:=Kd.R_slice HO637.out
                 (first | subst eo23 | (injection eo23 with f1_ f2_ f3_;have f4_:=f1_.symm;have f5_:=f3_.symm;clear f1_ f2_ f3_;subst f4_;subst f5_))
                 have p638:0 ≤ ((ji16):Int):=of_decide_eq_true zA
                 have q638:(ji16) < (y635.length:Int):=of_decide_eq_true zA
                 obtain ⟨ad638,e638,hx638_0⟩:=Kd.at_int (Kd.R_reads' HO637.out).2.2 (ji16) p638 q638
                 cases e638
                 replace p638:=eq_true p638
                 replace q638:=eq_true q638
                 refine start_ (n:=18) (S:=fun w'=>w'.cell? (ad638.add ((ji16)).toNat) = some (.int .u8 (rd y635 (ji16)))) (ds:=[17]) #[false,false,false,false,false,false,false,false,false,false,false,false,false,false,false,false,false,false] (by kernel_rfl) rfl rfl (hx638_0) (fun hHeld=>?_);refine with_tabW stoaref01_Pack.tab18 stoaref01_Pack.bits18 (fun HT_ HW_=>?_)
                 generalize w21.drew = w22 at HO637 HB hx638_0 hHeld ⊢
                 refine pure_ (i:=0) (N:=some 46) (v:=?_) (a':=?_) #[true,false,false,false,false,false,false,false,false,false,false,false,false,false,false,false,false,false] rfl rfl (any_of HT_.out (by kernel_rfl)) (fun _ _ _ h=>h) (Or.inl ⟨by rfl,?_⟩) ?_ ?_
                 rotate_left
                 ·intro w'
                  go_simp
                  with_reducible rfl
                 rotate_left
                 ·simp only [Act.put,List.setIfInBounds_toArray,List.set_cons_zero,List.set_cons_succ,i64_w,i32_w]
                  rfl
                 refine pure_ (i:=1) (N:=some 47) (v:=?_) (a':=?_) #[true,true,false,false,false,false,false,false,false,false,false,false,false,false,false,false,false,false] rfl rfl (any_of HT_.out (by kernel_rfl)) (fun _ _ _ h=>h) (Or.inl ⟨by rfl,?_⟩) ?_ ?_
                 rotate_left
                 ·intro w'
                  go_simp
                  with_reducible rfl
                 rotate_left
                 ·simp only [Act.put,List.setIfInBounds_toArray,List.set_cons_zero,List.set_cons_succ,i64_w,i32_w]
                  rfl
                 refine pure_ (i:=2) (N:=some 48) (v:=?_) (a':=?_) #[true,true,true,false,false,false,false,false,false,false,false,false,false,false,false,false,false,false] rfl rfl (any_of HT_.out (by kernel_rfl)) (fun _ _ _ h=>h) (Or.inl ⟨by rfl,?_⟩) ?_ ?_
                 rotate_left
                 ·intro w'
                  go_simp
                  with_reducible rfl
                 rotate_left
                 ·simp only [Act.put,List.setIfInBounds_toArray,List.set_cons_zero,List.set_cons_succ,i64_w,i32_w]
                  rfl
                 refine pure_ (i:=3) (N:=some 49) (v:=?_) (a':=?_) #[true,true,true,true,false,false,false,false,false,false,false,false,false,false,false,false,false,false] rfl rfl (any_of HT_.out (by kernel_rfl)) (fun _ _ _ h=>h) (Or.inl ⟨by rfl,?_⟩) ?_ ?_
                 rotate_left
                 ·intro w'
                  go_simp
                  with_reducible rfl
                 rotate_left
                 ·simp only [Act.put,List.setIfInBounds_toArray,List.set_cons_zero,List.set_cons_succ,i64_w,i32_w]
                  rfl
                 refine pure_ (i:=4) (N:=some 50) (v:=?_) (a':=?_) #[true,true,true,true,true,false,false,false,false,false,false,false,false,false,false,false,false,false] rfl rfl (any_of HT_.out (by kernel_rfl)) (fun _ _ _ h=>h) (Or.inl ⟨by rfl,?_⟩) ?_ ?_
                 rotate_left
                 ·intro w'
                  go_simp
                  with_reducible rfl
                 rotate_left
                 ·simp only [Act.put,List.setIfInBounds_toArray,List.set_cons_zero,List.set_cons_succ,i64_w,i32_w]
                  rfl
                 refine pure_ (i:=5) (N:=some 51) (v:=?_) (a':=?_) #[true,true,true,true,true,true,false,false,false,false,false,false,false,false,false,false,false,false] rfl rfl (any_of HT_.out (by kernel_rfl)) (fun _ _ _ h=>h) (Or.inl ⟨by rfl,?_⟩) ?_ ?_
                 rotate_left
                 ·intro w'
                  go_simp
                  with_reducible rfl
                 rotate_left
                 ·simp only [Act.put,List.setIfInBounds_toArray,List.set_cons_zero,List.set_cons_succ,i64_w,i32_w]
                  rfl
                 refine pure_ (i:=6) (N:=some 52) (v:=?_) (a':=?_) #[true,true,true,true,true,true,true,false,false,false,false,false,false,false,false,false,false,false] rfl rfl (any_of HT_.out (by kernel_rfl)) (fun _ _ _ h=>h) (Or.inl ⟨by rfl,?_⟩) ?_ ?_
                 rotate_left
                 ·intro w'
                  go_simp
                  with_reducible rfl
                 rotate_left
                 ·simp only [Act.put,List.setIfInBounds_toArray,List.set_cons_zero,List.set_cons_succ,i64_w,i32_w]
                  rfl
                 refine pure_ (i:=8) (N:=some 54) (v:=?_) (a':=?_) #[true,true,true,true,true,true,true,false,true,false,false,false,false,false,false,false,false,false] rfl rfl (any_of HT_.out (by kernel_rfl)) (fun _ _ _ h=>h) (Or.inl ⟨by rfl,?_⟩) ?_ ?_
                 rotate_left
                 ·intro w'
                  go_simp
                  with_reducible rfl
                 rotate_left
                 ·simp only [Act.put,List.setIfInBounds_toArray,List.set_cons_zero,List.set_cons_succ,i64_w,i32_w]
                  rfl
                 refine pure_ (i:=9) (N:=some 55) (v:=?_) (a':=?_) #[true,true,true,true,true,true,true,false,true,true,false,false,false,false,false,false,false,false] rfl rfl (any_of HT_.out (by kernel_rfl)) (fun _ _ _ h=>h) (Or.inl ⟨by rfl,?_⟩) ?_ ?_
                 rotate_left
                 ·intro w'
                  go_simp
                  with_reducible rfl
                 rotate_left
                 ·simp only [Act.put,List.setIfInBounds_toArray,List.set_cons_zero,List.set_cons_succ,i64_w,i32_w]
                  rfl
                 refine pure_ (i:=10) (N:=some 56) (v:=?_) (a':=?_) #[true,true,true,true,true,true,true,false,true,true,true,false,false,false,false,false,false,false] rfl rfl (any_of HT_.out (by kernel_rfl)) (fun _ _ _ h=>h) (Or.inl ⟨by rfl,?_⟩) ?_ ?_
                 rotate_left
                 ·intro w'
                  go_simp
                  with_reducible rfl
                 rotate_left
                 ·simp only [Act.put,List.setIfInBounds_toArray,List.set_cons_zero,List.set_cons_succ,i64_w,i32_w]
                  rfl
                 refine pure_ (i:=11) (N:=some 57) (v:=?_) (a':=?_) #[true,true,true,true,true,true,true,false,true,true,true,true,false,false,false,false,false,false] rfl rfl (any_of HT_.out (by kernel_rfl)) (fun _ _ _ h=>h) (Or.inl ⟨by rfl,?_⟩) ?_ ?_
                 rotate_left
                 ·intro w'
                  go_simp
                  with_reducible rfl
                 rotate_left
                 ·simp only [Act.put,List.setIfInBounds_toArray,List.set_cons_zero,List.set_cons_succ,i64_w,i32_w]
                  rfl
                 refine take_ (i:=7) (N:=some 53) (v:=?_) (a':=?_) #[true,true,true,true,true,true,true,true,true,true,true,true,false,false,false,false,false,false] rfl rfl (take_ofW HT_.out HW_.out (by kernel_rfl)) (fun _ _ _ h=>h) (Or.inl ⟨by rfl,?_⟩) hHeld ?_ ?_
                 rotate_left
                 ·intro w' s0
                  go_simp
                  with_reducible rfl
                 rotate_left
                 ·simp only [Act.put,List.setIfInBounds_toArray,List.set_cons_zero,List.set_cons_succ,i64_w,i32_w]
                  rfl
                 refine one_ (i:=12) (N:=some 58) #[true,true,true,true,true,true,true,true,true,true,true,true,true,false,false,false,false,false] rfl rfl (one_of HT_.out (by kernel_rfl)) (by decide) (fun K hK=>?_)
                 refine goes_ Tryz.func94 (by kernel_rfl) rfl #[.int .i64 (Int.tmod x7_3 8)] (by rfl) rfl rfl zE ?_
                 with_reducible refine (stoaref01_power.calls k3 (Int.tmod x7_3 8) t639 _ A19.out).mono ?_
                 rintro e w' ⟨rfl,⟨nd,rfl⟩⟩
                 refine ⟨_,rfl,?_⟩
                 have p20:0 ≤ ((ji16):Int):=of_decide_eq_true zA
                 have q20:((ji16):Int) < ((y635.length:Int):Int):=of_decide_eq_true zA
                 obtain ⟨go20,co20,eo20,gb20,gl20,cl20,HG20⟩:=Kd.R_form HO637.out (by omega)
                 (first | cases eo20 | (injection eo20 with ea_ en_ ec_;(first | subst ea_ | (injection ea_ with ea_;subst ea_));subst ec_;clear en_))
                 have GB20:=Aside0.mk gb20
                 have GG20:=Aside0.mk HG20
                 clear gb20 gl20 HG20
                 (first | simp only [add_plain] at hx638_0 | skip)
                 obtain ⟨hx20_0,hf20_0⟩:=Kd.R_celln 0 HO637.out ((ji16):Int) p20 q20
                 replace p20:=eq_true p20
                 replace q20:=eq_true q20
                 have HP24:=Kd.R_putn HO637.out ((ji16):Int) (((rd y635 (ji16)) + ((IntKind.u64.wrap ((Int.tmod x9_3 2) * t639)) % 256)) % 256)
                 rw [← Ny640.out] at HP24
                 have HQ24:=Aside0.mk HP24
                 clear HP24
                 refine hK.out _ _ (hHeld) (fun hHeld=>?_)
                 clear hK K
                 refine norm_ (a':=?_) ?_ ?_
                 rotate_left
                 ·show Act.put _ (some 58) _ = _
                  simp only [Act.put,List.setIfInBounds_toArray,List.set_cons_zero,List.set_cons_succ,i64_w,i32_w]
                  rfl
                 refine pure_ (i:=13) (N:=some 59) (v:=?_) (a':=?_) #[true,true,true,true,true,true,true,true,true,true,true,true,true,true,false,false,false,false] rfl rfl (any_of HT_.out (by kernel_rfl)) (fun _ _ _ h=>h) (Or.inl ⟨by rfl,?_⟩) ?_ ?_
                 rotate_left
                 ·intro w'
                  go_simp
                  with_reducible rfl
                 rotate_left
                 ·simp only [Act.put,List.setIfInBounds_toArray,List.set_cons_zero,List.set_cons_succ,i64_w,i32_w]
                  rfl
                 refine pure_ (i:=14) (N:=some 60) (v:=?_) (a':=?_) #[true,true,true,true,true,true,true,true,true,true,true,true,true,true,true,false,false,false] rfl rfl (any_of HT_.out (by kernel_rfl)) (fun _ _ _ h=>h) (Or.inl ⟨by rfl,?_⟩) ?_ ?_
                 rotate_left
                 ·intro w'
                  go_simp
                  with_reducible rfl
                 rotate_left
                 ·simp only [Act.put,List.setIfInBounds_toArray,List.set_cons_zero,List.set_cons_succ,i64_w,i32_w]
                  rfl
                 refine pure_ (i:=15) (N:=some 61) (v:=?_) (a':=?_) #[true,true,true,true,true,true,true,true,true,true,true,true,true,true,true,true,false,false] rfl rfl (any_of HT_.out (by kernel_rfl)) (fun _ _ _ h=>h) (Or.inl ⟨by rfl,?_⟩) ?_ ?_
                 rotate_left
                 ·intro w'
                  go_simp
                  with_reducible rfl
                 rotate_left
                 ·simp only [Act.put,List.setIfInBounds_toArray,List.set_cons_zero,List.set_cons_succ,i64_w,i32_w]
                  rfl
                 refine pure_ (i:=16) (N:=some 62) (v:=?_) (a':=?_) #[true,true,true,true,true,true,true,true,true,true,true,true,true,true,true,true,true,false] rfl rfl (any_of HT_.out (by kernel_rfl)) (fun _ _ _ h=>h) (Or.inl ⟨by rfl,?_⟩) ?_ ?_
                 rotate_left
                 ·intro w'
                  go_simp
                  with_reducible rfl
                 rotate_left
                 ·simp only [Act.put,List.setIfInBounds_toArray,List.set_cons_zero,List.set_cons_succ,i64_w,i32_w]
                  rfl
                 refine last_ (i:=17) (N:=none) #[true,true,true,true,true,true,true,true,true,true,true,true,true,true,true,true,true,true] rfl rfl (one_of HT_.out (by kernel_rfl)) (by decide) (fun K hK=>?_)
                 refine skip_ (w1:=?_) (by rfl) rfl ?_ ?_
                 rotate_left
                 ·go_simp
                  rfl
                 refine hK.out _ _ ?_
                 clear hK K
                 refine done_ (done_of HT_.out (by kernel_rfl)) ?_
                 try go_wp2
                 go_roundg k3
                 case measure=>have:=HJ2.out;have:=HK2.out;have:=HK3.out;omega
                 case rel=>exact ⟨(y640),(wrap64 (x7_3 + 1)),(IntKind.u64.wrap (Int.tdiv x9_3 2)),(wrap64 (x10_3 + 1)),zF,zF,zF,H',⟨by have:=HJ2.out;have:=HK2.out;have:=HK3.out;omega⟩,⟨by first | ((with_reducible repeat (first | apply Kd.R_alloc | apply Kd.R_drewN | apply Kd.R_drew));exact HQ24.out) | (have h9:=HQ24.out;have m9:∀ a b:Int,(a + b % 256) % 256 = (a + b) % 256:=(by intros;omega);rw [m9] at h9;exact Kd.R_move h9 (fun _ _=>rfl))⟩,⟨by repeat (first | (with_reducible first | exact HB.out | apply below_alloc | apply pw_below_drewN | apply below_drew1 | refine below_set ?_ GB20.out) | exact HB.out)⟩⟩
                ·rw [if_neg c18] at H
                 exact absurd H (by simp)
               ·rw [if_neg c17] at H
                exact absurd H (by simp)
              ·rw [if_neg c15] at H
               exact absurd H (by simp)
             ·rw [if_neg c14] at H
              have c14b0:((Int.tmod x7_3 8) == 0) = false:=beq_eq_false_iff_ne.mpr c14
              have c14b1:((Int.tmod x7_3 8) != 0) = true:=bne_iff_ne.mpr c14
              obtain ⟨ji25,hji25⟩:∃ j_:Int,(wrap64 (Int.tdiv x7_3 8)) = j_:=⟨_,rfl⟩
              replace H:(if 0 ≤ (ji25) then (if (ji25) < (x6_3.length:Int) then ((stoaref01_power.f k3 (Int.tmod x7_3 8)).bind fun t642=>(stoaref01_Pack.l1 k3 a0 l1 (x6_3.set ((ji25):Int).toNat (((rd x6_3 (ji25)) + ((IntKind.u64.wrap ((Int.tmod x9_3 2) * t642)) % 256)) % 256)) (wrap64 (x7_3 + 1)) x8_2 (IntKind.u64.wrap (Int.tdiv x9_3 2)) (wrap64 (x10_3 + 1)))) else (none)) else (none)) = some (r1,r2):=by first | (rw [hji25] at H;exact H) | (simp only [hji25] at H ⊢;exact H)
              have hji25w:(IntKind.i64.wrap (Int.tdiv x7_3 8)) = ji25:=(i64_w _).trans hji25
              by_cases c26:0 ≤ (ji25)
              ·rw [if_pos c26] at H
               have c26b0:=decide_eq_true c26
               clear c26
               by_cases c27:(ji25) < (x6_3.length:Int)
               ·rw [if_pos c27] at H
                have c27b0:=decide_eq_true c27
                clear c27
                replace H:=Option.bind_eq_some_iff.mp H
                obtain ⟨t642,A280,H⟩:=H
                try dsimp only at H
                have A28:=Aside0.mk A280
                clear A280
                obtain ⟨y643,hy643⟩:∃ y_:List Int,y_ = (x6_3.set ((ji25):Int).toNat (((rd x6_3 (ji25)) + ((IntKind.u64.wrap ((Int.tmod x9_3 2) * t642)) % 256)) % 256)):=⟨_,rfl⟩
                replace H:(stoaref01_Pack.l1 k3 a0 l1 y643 (wrap64 (x7_3 + 1)) x8_2 (IntKind.u64.wrap (Int.tdiv x9_3 2)) (wrap64 (x10_3 + 1))) = some (r1,r2):=by first | (rw [hy643];with_reducible exact H) | (have H2_:=(Option.bind_some _ _).symm.trans H;rw [hy643];with_reducible exact H2_) | (have H2_:=(Option.bind_some _ _).symm.trans H;with_reducible exact H2_) | with_reducible exact H | (rw [hy643];exact H) | exact H
                have Ny643:=Aside0.mk hy643
                clear hy643
                have H':=Aside0.mk H
                clear H
                try go_wp2
                have n0_:=Aside0.mk (Kd.R_drew HO_6.out)
                have n1_:=Aside0.mk (below_drew1 HB.out)
                clear HO_6
                clear HB
                have HO_6:=n0_
                have HB:=n1_
                clear n0_ n1_
                obtain ⟨Ao31,co31,eo31⟩:=Kd.R_slice HO_6.out
                (first | subst eo31 | (injection eo31 with f1_ f2_ f3_;have f4_:=f1_.symm;have f5_:=f3_.symm;clear f1_ f2_ f3_;subst f4_;subst f5_))
                have p641:0 ≤ ((ji25):Int):=of_decide_eq_true zA
                have q641:(ji25) < (x6_3.length:Int):=of_decide_eq_true zA
                obtain ⟨ad641,e641,hx641_0⟩:=Kd.at_int (Kd.R_reads' HO_6.out).2.2 (ji25) p641 q641
                cases e641
                replace p641:=eq_true p641
                replace q641:=eq_true q641
                refine start_ (n:=18) (S:=fun w'=>w'.cell? (ad641.add ((ji25)).toNat) = some (.int .u8 (rd x6_3 (ji25)))) (ds:=[17]) #[false,false,false,false,false,false,false,false,false,false,false,false,false,false,false,false,false,false] (by kernel_rfl) rfl rfl (hx641_0) (fun hHeld=>?_);refine with_tabW stoaref01_Pack.tab18 stoaref01_Pack.bits18 (fun HT_ HW_=>?_)
                generalize wr.drew = w30 at HO_6 HB hx641_0 hHeld ⊢
                refine pure_ (i:=0) (N:=some 46) (v:=?_) (a':=?_) #[true,false,false,false,false,false,false,false,false,false,false,false,false,false,false,false,false,false] rfl rfl (any_of HT_.out (by kernel_rfl)) (fun _ _ _ h=>h) (Or.inl ⟨by rfl,?_⟩) ?_ ?_
                rotate_left
                ·intro w'
                 go_simp
                 with_reducible rfl
                rotate_left
                ·simp only [Act.put,List.setIfInBounds_toArray,List.set_cons_zero,List.set_cons_succ,i64_w,i32_w]
                 rfl
                refine pure_ (i:=1) (N:=some 47) (v:=?_) (a':=?_) #[true,true,false,false,false,false,false,false,false,false,false,false,false,false,false,false,false,false] rfl rfl (any_of HT_.out (by kernel_rfl)) (fun _ _ _ h=>h) (Or.inl ⟨by rfl,?_⟩) ?_ ?_
                rotate_left
                ·intro w'
                 go_simp
                 with_reducible rfl
                rotate_left
                ·simp only [Act.put,List.setIfInBounds_toArray,List.set_cons_zero,List.set_cons_succ,i64_w,i32_w]
                 rfl
                refine pure_ (i:=2) (N:=some 48) (v:=?_) (a':=?_) #[true,true,true,false,false,false,false,false,false,false,false,false,false,false,false,false,false,false] rfl rfl (any_of HT_.out (by kernel_rfl)) (fun _ _ _ h=>h) (Or.inl ⟨by rfl,?_⟩) ?_ ?_
                rotate_left
                ·intro w'
                 go_simp
                 with_reducible rfl
                rotate_left
                ·simp only [Act.put,List.setIfInBounds_toArray,List.set_cons_zero,List.set_cons_succ,i64_w,i32_w]
                 rfl
                refine pure_ (i:=3) (N:=some 49) (v:=?_) (a':=?_) #[true,true,true,true,false,false,false,false,false,false,false,false,false,false,false,false,false,false] rfl rfl (any_of HT_.out (by kernel_rfl)) (fun _ _ _ h=>h) (Or.inl ⟨by rfl,?_⟩) ?_ ?_
                rotate_left
                ·intro w'
                 go_simp
                 with_reducible rfl
                rotate_left
                ·simp only [Act.put,List.setIfInBounds_toArray,List.set_cons_zero,List.set_cons_succ,i64_w,i32_w]
                 rfl
                refine pure_ (i:=4) (N:=some 50) (v:=?_) (a':=?_) #[true,true,true,true,true,false,false,false,false,false,false,false,false,false,false,false,false,false] rfl rfl (any_of HT_.out (by kernel_rfl)) (fun _ _ _ h=>h) (Or.inl ⟨by rfl,?_⟩) ?_ ?_
                rotate_left
                ·intro w'
                 go_simp
                 with_reducible rfl
                rotate_left
                ·simp only [Act.put,List.setIfInBounds_toArray,List.set_cons_zero,List.set_cons_succ,i64_w,i32_w]
                 rfl
                refine pure_ (i:=5) (N:=some 51) (v:=?_) (a':=?_) #[true,true,true,true,true,true,false,false,false,false,false,false,false,false,false,false,false,false] rfl rfl (any_of HT_.out (by kernel_rfl)) (fun _ _ _ h=>h) (Or.inl ⟨by rfl,?_⟩) ?_ ?_
                rotate_left
                ·intro w'
                 go_simp
                 with_reducible rfl
                rotate_left
                ·simp only [Act.put,List.setIfInBounds_toArray,List.set_cons_zero,List.set_cons_succ,i64_w,i32_w]
                 rfl
                refine pure_ (i:=6) (N:=some 52) (v:=?_) (a':=?_) #[true,true,true,true,true,true,true,false,false,false,false,false,false,false,false,false,false,false] rfl rfl (any_of HT_.out (by kernel_rfl)) (fun _ _ _ h=>h) (Or.inl ⟨by rfl,?_⟩) ?_ ?_
                rotate_left
                ·intro w'
                 go_simp
                 with_reducible rfl
                rotate_left
                ·simp only [Act.put,List.setIfInBounds_toArray,List.set_cons_zero,List.set_cons_succ,i64_w,i32_w]
                 rfl
                refine pure_ (i:=8) (N:=some 54) (v:=?_) (a':=?_) #[true,true,true,true,true,true,true,false,true,false,false,false,false,false,false,false,false,false] rfl rfl (any_of HT_.out (by kernel_rfl)) (fun _ _ _ h=>h) (Or.inl ⟨by rfl,?_⟩) ?_ ?_
                rotate_left
                ·intro w'
                 go_simp
                 with_reducible rfl
                rotate_left
                ·simp only [Act.put,List.setIfInBounds_toArray,List.set_cons_zero,List.set_cons_succ,i64_w,i32_w]
                 rfl
                refine pure_ (i:=9) (N:=some 55) (v:=?_) (a':=?_) #[true,true,true,true,true,true,true,false,true,true,false,false,false,false,false,false,false,false] rfl rfl (any_of HT_.out (by kernel_rfl)) (fun _ _ _ h=>h) (Or.inl ⟨by rfl,?_⟩) ?_ ?_
                rotate_left
                ·intro w'
                 go_simp
                 with_reducible rfl
                rotate_left
                ·simp only [Act.put,List.setIfInBounds_toArray,List.set_cons_zero,List.set_cons_succ,i64_w,i32_w]
                 rfl
                refine pure_ (i:=10) (N:=some 56) (v:=?_) (a':=?_) #[true,true,true,true,true,true,true,false,true,true,true,false,false,false,false,false,false,false] rfl rfl (any_of HT_.out (by kernel_rfl)) (fun _ _ _ h=>h) (Or.inl ⟨by rfl,?_⟩) ?_ ?_
                rotate_left
                ·intro w'
                 go_simp
                 with_reducible rfl
                rotate_left
                ·simp only [Act.put,List.setIfInBounds_toArray,List.set_cons_zero,List.set_cons_succ,i64_w,i32_w]
                 rfl
                refine pure_ (i:=11) (N:=some 57) (v:=?_) (a':=?_) #[true,true,true,true,true,true,true,false,true,true,true,true,false,false,false,false,false,false] rfl rfl (any_of HT_.out (by kernel_rfl)) (fun _ _ _ h=>h) (Or.inl ⟨by rfl,?_⟩) ?_ ?_
                rotate_left
                ·intro w'
                 go_simp
                 with_reducible rfl
                rotate_left
                ·simp only [Act.put,List.setIfInBounds_toArray,List.set_cons_zero,List.set_cons_succ,i64_w,i32_w]
                 rfl
                refine take_ (i:=7) (N:=some 53) (v:=?_) (a':=?_) #[true,true,true,true,true,true,true,true,true,true,true,true,false,false,false,false,false,false] rfl rfl (take_ofW HT_.out HW_.out (by kernel_rfl)) (fun _ _ _ h=>h) (Or.inl ⟨by rfl,?_⟩) hHeld ?_ ?_
                rotate_left
                ·intro w' s0
                 go_simp
                 with_reducible rfl
                rotate_left
                ·simp only [Act.put,List.setIfInBounds_toArray,List.set_cons_zero,List.set_cons_succ,i64_w,i32_w]
                 rfl
                refine one_ (i:=12) (N:=some 58) #[true,true,true,true,true,true,true,true,true,true,true,true,true,false,false,false,false,false] rfl rfl (one_of HT_.out (by kernel_rfl)) (by decide) (fun K hK=>?_)
                refine goes_ Tryz.func94 (by kernel_rfl) rfl #[.int .i64 (Int.tmod x7_3 8)] (by rfl) rfl rfl zE ?_
                with_reducible refine (stoaref01_power.calls k3 (Int.tmod x7_3 8) t642 _ A28.out).mono ?_
                rintro e w' ⟨rfl,⟨nd,rfl⟩⟩
                refine ⟨_,rfl,?_⟩
                have p29:0 ≤ ((ji25):Int):=of_decide_eq_true zA
                have q29:((ji25):Int) < ((x6_3.length:Int):Int):=of_decide_eq_true zA
                obtain ⟨go29,co29,eo29,gb29,gl29,cl29,HG29⟩:=Kd.R_form HO_6.out (by omega)
                (first | cases eo29 | (injection eo29 with ea_ en_ ec_;(first | subst ea_ | (injection ea_ with ea_;subst ea_));subst ec_;clear en_))
                have GB29:=Aside0.mk gb29
                have GG29:=Aside0.mk HG29
                clear gb29 gl29 HG29
                (first | simp only [add_plain] at hx641_0 | skip)
                obtain ⟨hx29_0,hf29_0⟩:=Kd.R_celln 0 HO_6.out ((ji25):Int) p29 q29
                replace p29:=eq_true p29
                replace q29:=eq_true q29
                have HP32:=Kd.R_putn HO_6.out ((ji25):Int) (((rd x6_3 (ji25)) + ((IntKind.u64.wrap ((Int.tmod x9_3 2) * t642)) % 256)) % 256)
                rw [← Ny643.out] at HP32
                have HQ32:=Aside0.mk HP32
                clear HP32
                refine hK.out _ _ (hHeld) (fun hHeld=>?_)
                clear hK K
                refine norm_ (a':=?_) ?_ ?_
                rotate_left
                ·show Act.put _ (some 58) _ = _
                 simp only [Act.put,List.setIfInBounds_toArray,List.set_cons_zero,List.set_cons_succ,i64_w,i32_w]
                 rfl
                refine pure_ (i:=13) (N:=some 59) (v:=?_) (a':=?_) #[true,true,true,true,true,true,true,true,true,true,true,true,true,true,false,false,false,false] rfl rfl (any_of HT_.out (by kernel_rfl)) (fun _ _ _ h=>h) (Or.inl ⟨by rfl,?_⟩) ?_ ?_
                rotate_left
                ·intro w'
                 go_simp
                 with_reducible rfl
                rotate_left
                ·simp only [Act.put,List.setIfInBounds_toArray,List.set_cons_zero,List.set_cons_succ,i64_w,i32_w]
                 rfl
                refine pure_ (i:=14) (N:=some 60) (v:=?_) (a':=?_) #[true,true,true,true,true,true,true,true,true,true,true,true,true,true,true,false,false,false] rfl rfl (any_of HT_.out (by kernel_rfl)) (fun _ _ _ h=>h) (Or.inl ⟨by rfl,?_⟩) ?_ ?_
                rotate_left
                ·intro w'
                 go_simp
                 with_reducible rfl
                rotate_left
                ·simp only [Act.put,List.setIfInBounds_toArray,List.set_cons_zero,List.set_cons_succ,i64_w,i32_w]
                 rfl
                refine pure_ (i:=15) (N:=some 61) (v:=?_) (a':=?_) #[true,true,true,true,true,true,true,true,true,true,true,true,true,true,true,true,false,false] rfl rfl (any_of HT_.out (by kernel_rfl)) (fun _ _ _ h=>h) (Or.inl ⟨by rfl,?_⟩) ?_ ?_
                rotate_left
                ·intro w'
                 go_simp
                 with_reducible rfl
                rotate_left
                ·simp only [Act.put,List.setIfInBounds_toArray,List.set_cons_zero,List.set_cons_succ,i64_w,i32_w]
                 rfl
                refine pure_ (i:=16) (N:=some 62) (v:=?_) (a':=?_) #[true,true,true,true,true,true,true,true,true,true,true,true,true,true,true,true,true,false] rfl rfl (any_of HT_.out (by kernel_rfl)) (fun _ _ _ h=>h) (Or.inl ⟨by rfl,?_⟩) ?_ ?_
                rotate_left
                ·intro w'
                 go_simp
                 with_reducible rfl
                rotate_left
                ·simp only [Act.put,List.setIfInBounds_toArray,List.set_cons_zero,List.set_cons_succ,i64_w,i32_w]
                 rfl
                refine last_ (i:=17) (N:=none) #[true,true,true,true,true,true,true,true,true,true,true,true,true,true,true,true,true,true] rfl rfl (one_of HT_.out (by kernel_rfl)) (by decide) (fun K hK=>?_)
                refine skip_ (w1:=?_) (by rfl) rfl ?_ ?_
                rotate_left
                ·go_simp
                 rfl
                refine hK.out _ _ ?_
                clear hK K
                refine done_ (done_of HT_.out (by kernel_rfl)) ?_
                try go_wp2
                go_roundg k3
                case measure=>have:=HJ2.out;have:=HK2.out;have:=HK3.out;omega
                case rel=>exact ⟨(y643),(wrap64 (x7_3 + 1)),(IntKind.u64.wrap (Int.tdiv x9_3 2)),(wrap64 (x10_3 + 1)),zF,zF,zF,H',⟨by have:=HJ2.out;have:=HK2.out;have:=HK3.out;omega⟩,⟨by first | ((with_reducible repeat (first | apply Kd.R_alloc | apply Kd.R_drewN | apply Kd.R_drew));exact HQ32.out) | (have h9:=HQ32.out;have m9:∀ a b:Int,(a + b % 256) % 256 = (a + b) % 256:=(by intros;omega);rw [m9] at h9;exact Kd.R_move h9 (fun _ _=>rfl))⟩,⟨by repeat (first | (with_reducible first | exact HB.out | apply below_alloc | apply pw_below_drewN | apply below_drew1 | refine below_set ?_ GB29.out) | exact HB.out)⟩⟩
               ·rw [if_neg c27] at H
                exact absurd H (by simp)
              ·rw [if_neg c26] at H
               exact absurd H (by simp)
            ·rw [if_neg c13] at H
             have c13b0:=decide_eq_false c13
             clear c13
             have H':=Aside0.mk H
             clear H
             go_wp2
             go_roundg k3
             case measure=>have:=HJ2.out;have:=HK2.out;have:=HK3.out;omega
             case rel=>exact ⟨(x6_3),(x7_3),(wrap64 (x8_2 + 1)),zF,zF,H',⟨by have:=HJ2.out;have:=HK2.out;have:=HK3.out;omega⟩,⟨zR HO_6.out⟩,⟨zB⟩⟩
         ·rw [if_neg c12] at H
          exact absurd H (by simp)
        ·rw [if_neg c11] at H
         have c11b0:=decide_eq_false c11
         clear c11
         simp only [Option.some.injEq,Prod.mk.injEq] at H
         obtain ⟨rfl,rfl⟩:=H
         go_wp2
         go_ret2
         exact ⟨_,zG,zR HO_6.out,zB⟩
def stoaref05_Fold.f (a0:Int):Option (Int):=if a0 ≥ 0 then (some (IntKind.u64.wrap ((IntKind.u64.wrap (a0)) * 2))) else (some (IntKind.u64.wrap ((IntKind.u64.wrap ((IntKind.u64.wrap (wrap64 (-(wrap64 (a0 + 1))))) * 2)) + 1)))
set_option maxHeartbeats 8000000 in
set_option maxRecDepth 100000 in
theorem stoaref05_Fold.calls (a0:Int) (r:Int) (w:World) (h:stoaref05_Fold.f a0 = some r) :
  Calls Tryz.prog 95 #[.int .i64 a0] w fun e w'=>e = .returned (.int .u64 r) ∧ Drawn0 w w':=by
 have H:(if a0 ≥ 0 then (some (IntKind.u64.wrap ((IntKind.u64.wrap (a0)) * 2))) else (some (IntKind.u64.wrap ((IntKind.u64.wrap ((IntKind.u64.wrap (wrap64 (-(wrap64 (a0 + 1))))) * 2)) + 1)))) = some r:=h
 clear h
 by_cases c2:a0 ≥ 0
 ·rw [if_pos c2] at H
  have c2b0:decide (0 ≤ a0) = true:=decide_eq_true c2
  clear c2
  obtain rfl:=Option.some.inj H
  go_enter Tryz.func95,Tryz.ntmps95
  go_wp2
  go_ret
  exact ⟨zF,zD⟩
 ·rw [if_neg c2] at H
  have c2b0:decide (0 ≤ a0) = false:=decide_eq_false c2
  clear c2
  obtain rfl:=Option.some.inj H
  go_enter Tryz.func95,Tryz.ntmps95
  go_wp2
  go_ret
  exact ⟨zF,zD⟩
end Go.Proofs.YteeikgjjgfdjgaaGreat.PK
end
section
namespace Go.Proofs.YteeikgjjgfdjgaaGreat.PK
open Go.RowKit Go.Proofs.YteeikgjjgfdjgaaGreatW.PrintWords Go.Proofs.YteeikgjjgfdjgaaGreatW.PrintLast Go.Proofs.YteeikgjjgfdjgaaGreatW.PrintMore
attribute [local go_sem] max2_int min2_int max_two min_two max_three min_three max_four min_four
set_option linter.unusedVariables false
set_option linter.unusedSimpArgs false
def block_fromNumbers.l0:Nat → Int → List (S53) → List Int → Int → Int → Option ((List (S53)) × Int)
 | 0,_,_,_,_,_=>none
 | k + 1,x1,x6,x9,x10,x11=>if x11 < x10 then (if 0 ≤ x11 then (if x11 < (x9.length:Int) then (if x6.length < 3518437208883 then (block_fromNumbers.l0 k x1 (x6 ++ [(⟨false,rd x9 x11,([]:List Int)⟩:S53)]) x9 x10 (wrap64 (x11 + 1))) else (none)) else (none)) else (none)) else (some (x6,x1))
def block_fromNumbers.f (k:Nat) (l0:List Int) (a1:Int):Option ((List (S53)) × Int):=block_fromNumbers.l0 k a1 ([]:List (S53)) l0 (l0.length:Int) 0
set_option maxHeartbeats 8000000 in
set_option maxRecDepth 100000 in
theorem block_fromNumbers.calls (k:Nat) (A0:Option Addr) (c0:Nat) (l0:List Int) (a1:Int) (r1:List (S53)) (r2:Int) (w:World) (hr0:Kd.C (Kd.int .i64) w A0 l0.length l0) (hc0:l0.length ≤ c0) (h:block_fromNumbers.f k l0 a1 = some (r1,r2)) :
  Calls Tryz.prog 66 #[.slice A0 l0.length c0,.int .i64 a1] w fun e w'=>∃ v0_:Value,e = .returned (.tuple #[v0_,.int .i64 r2]) ∧ Kd.S k53 53 w' w.heap.size (fun _=>True) v0_ r1 ∧ Below w.heap.size w w':=by
 have hu53:=Tryz.underlying53
 have HR0:=Aside0.mk hr0
 have HC0:=Aside0.mk hc0
 clear hr0 hc0
 have HB:=Aside0.mk (Below.refl w.heap.size w)
 have H:(block_fromNumbers.l0 k a1 ([]:List (S53)) l0 (l0.length:Int) 0) = some (r1,r2):=h
 clear h
 have H':=Aside0.mk H
 clear H
 go_enter Tryz.func66,Tryz.ntmps66
 go_wp2
 go_loopg [6,11] k (fun kq v6 v11 w'=>∃ (x6_1:List (S53)) (x11_1:Int),v11 = .int .i64 x11_1 ∧ Aside0 (block_fromNumbers.l0 kq a1 x6_1 l0 (l0.length:Int) x11_1 = some (r1,r2)) ∧ Aside0 (kq ≤ k) ∧ Aside0 (Kd.S k53 53 w' w.heap.size (fun _=>True) v6 x6_1) ∧ Aside0 (Below w.heap.size w w'))
 case atStart=>exact ⟨(([]:List (S53))),(0),zF,H',⟨Nat.le_refl _⟩,⟨by first | exact Kd.S_nil _ _ _ _ _ | exact Kd.N_nil _ _ _ _ _ | exact Kd.V_nil _ _ _ _ _ | exact Kd.Q_nil _ _ _ _ _ | exact Kd.R_nil _ _ _ _ _⟩,⟨zB⟩⟩
 case round =>
  clear H'
  try clear p2
  obtain ⟨x6_1,x11_1,rfl,HA,HK1,HO_6,HB⟩:=hrel
  cases gk with
  | zero=>exact absurd HA.out (by simp [block_fromNumbers.l0])
  | succ k1 =>
   have H:=HA.out
   clear HA
   simp only [block_fromNumbers.l0] at H
   by_cases c3:x11_1 < (l0.length:Int)
   ·rw [if_pos c3] at H
    have c3b0:=decide_eq_true c3
    clear c3
    by_cases c4:0 ≤ x11_1
    ·rw [if_pos c4] at H
     have c4b0:=decide_eq_true c4
     clear c4
     by_cases c5:x11_1 < (l0.length:Int)
     ·rw [if_pos c5] at H
      have c5b0:=decide_eq_true c5
      clear c5
      by_cases c6:x6_1.length < 3518437208883
      ·rw [if_pos c6] at H
       have LMc6:=Aside0.mk c6
       clear c6
       obtain ⟨y484,hy484⟩:∃ y_:List (S53),y_ = (x6_1 ++ [(⟨false,rd l0 x11_1,([]:List Int)⟩:S53)]):=⟨_,rfl⟩
       replace H:(block_fromNumbers.l0 k1 a1 y484 l0 (l0.length:Int) (wrap64 (x11_1 + 1))) = some (r1,r2):=by first | (rw [hy484];with_reducible exact H) | (have H2_:=(Option.bind_some _ _).symm.trans H;rw [hy484];with_reducible exact H2_) | (have H2_:=(Option.bind_some _ _).symm.trans H;with_reducible exact H2_) | with_reducible exact H | (rw [hy484];exact H) | exact H
       have Ny484:=Aside0.mk hy484
       clear hy484
       have H':=Aside0.mk H
       clear H
       have p483:0 ≤ (x11_1:Int):=of_decide_eq_true zA
       have q483:x11_1 < (l0.length:Int):=of_decide_eq_true zA
       obtain ⟨ad483,e483,hx483_0⟩:=Kd.at_int HR0.out x11_1 p483 q483
       cases e483
       replace hx483_0:=(HB.out.cell (World.block_lt_of_cell? w _ hx483_0)).trans hx483_0
       replace p483:=eq_true p483
       replace q483:=eq_true q483
       go_wp2_with (first | ((with_reducible refine gate_builtin (b:=.append) (xs:=#[.tmp 15,.tmp 18]) rfl ?_);at_builtin;refine Kd.S_append k53 (w0:=w) w.heap.size rfl (.tmp 15) (.tmp 18) 22 53 (.agg #[(.bool false),(.int .i64 0),(.slice none 0 0)]) 40 rfl Tryz.underlying22 info53 rfl (by decide) (by omega) u6 x6_1 (⟨false,rd l0 x11_1,([]:List Int)⟩:S53) [.bool false,.int .i64 (rd l0 x11_1),.slice none 0 0] (fun _=>True) (fun _=>False) rfl rfl ?aP (fun k_ hk_=>hk_.elim) ?aF ?aO ?aB ?aS ?aL ?_;(case aP=>exact k53_mkM _ _ _ (⟨false,rd l0 x11_1,([]:List Int)⟩:S53) (Kd.R_nil _ _ _ _ _));(case aB=>exact zB);(case aF=>exact fun _ _=>trivial);(case aO=>exact (by (with_reducible repeat (first | apply Kd.S_alloc | apply Kd.S_drewN | apply Kd.S_drew));exact Kd.S_mono HO_6.out (fun k_ hk=>⟨trivial,fun e_=>e_⟩)));(case aS=>exact (below_size zB));(case aL=>have:=LMc6.out;omega);intro v485 w7 ho hb hg hat;rw [← Ny484.out] at ho;have n0_:=Aside0.mk (hb);have n1_:=Aside0.mk (ho);clear HB;clear HO_6;have HB:=n0_;have HO486:=n1_;clear n0_ n1_;clear ho hb hg hat))
       go_roundg k1
       case measure=>have:=HK1.out;omega
       case rel=>exact ⟨(y484),(wrap64 (x11_1 + 1)),zF,H',⟨by have:=HK1.out;omega⟩,⟨zS HO486.out⟩,⟨zB⟩⟩
      ·rw [if_neg c6] at H
       exact absurd H (by simp)
     ·rw [if_neg c5] at H
      exact absurd H (by simp)
    ·rw [if_neg c4] at H
     exact absurd H (by simp)
   ·rw [if_neg c3] at H
    have c3b0:=decide_eq_false c3
    clear c3
    simp only [Option.some.injEq,Prod.mk.injEq] at H
    obtain ⟨rfl,rfl⟩:=H
    go_wp2
    go_ret2
    exact ⟨_,zG,zS HO_6.out,zB⟩
mutual
def stoaref01_Cat.l0:Nat → List Int → List Int → List Int → Int → Option (List Int)
 | 0,_,_,_,_=>none
 | k + 1,x0,x1,x5,x6=>if x6 < (x0.length:Int) then (if 0 ≤ x6 then (if x5.length < 140737488355328 then (stoaref01_Cat.l0 k x0 x1 (x5 ++ [rd x0 x6]) (wrap64 (x6 + 1))) else (none)) else (none)) else (stoaref01_Cat.l1 k x1 x5 0)
def stoaref01_Cat.l1:Nat → List Int → List Int → Int → Option (List Int)
 | 0,_,_,_=>none
 | k + 1,x1,x5,x7=>if x7 < (x1.length:Int) then (if 0 ≤ x7 then (if x5.length < 140737488355328 then (stoaref01_Cat.l1 k x1 (x5 ++ [rd x1 x7]) (wrap64 (x7 + 1))) else (none)) else (none)) else (some x5)
end
def stoaref01_Cat.f (k:Nat) (l0:List Int) (l1:List Int):Option (List Int):=stoaref01_Cat.l0 k l0 l1 (([]:List Int)) 0
set_option maxHeartbeats 8000000 in
set_option maxRecDepth 100000 in
theorem stoaref01_Cat.calls (k:Nat) (A0:Option Addr) (c0:Nat) (l0:List Int) (A1:Option Addr) (c1:Nat) (l1:List Int) (r:List Int) (w:World) (hr0:Kd.C (Kd.int .u8) w A0 l0.length l0) (hc0:l0.length ≤ c0) (hr1:Kd.C (Kd.int .u8) w A1 l1.length l1) (hc1:l1.length ≤ c1) (h:stoaref01_Cat.f k l0 l1 = some r) :
  Calls Tryz.prog 47 #[.slice A0 l0.length c0,.slice A1 l1.length c1] w fun e w'=>∃ v0_:Value,e = .returned (v0_) ∧ Kd.R (Kd.int .u8) 5 w' w.heap.size (fun _=>True) v0_ r ∧ Below w.heap.size w w':=by
 have HR0:=Aside0.mk hr0
 have HC0:=Aside0.mk hc0
 clear hr0 hc0
 have HR1:=Aside0.mk hr1
 have HC1:=Aside0.mk hc1
 clear hr1 hc1
 have HB:=Aside0.mk (Below.refl w.heap.size w)
 have H:(stoaref01_Cat.l0 k l0 l1 (([]:List Int)) 0) = some r:=h
 clear h
 obtain ⟨y556,hy556⟩:∃ y_:List Int,y_ = (([]:List Int)):=⟨_,rfl⟩
 replace H:(stoaref01_Cat.l0 k l0 l1 y556 0) = some r:=by first | (rw [hy556];with_reducible exact H) | (have H2_:=(Option.bind_some _ _).symm.trans H;rw [hy556];with_reducible exact H2_) | (have H2_:=(Option.bind_some _ _).symm.trans H;with_reducible exact H2_) | with_reducible exact H | (rw [hy556];exact H) | exact H
 have Ny556:=Aside0.mk hy556
 clear hy556
 have H':=Aside0.mk H
 clear H
 go_enter Tryz.func47,Tryz.ntmps47
 go_wp2_with (first | ((with_reducible refine gate_dst (N:=8) rfl ?_);refine Kd.R_lit (Kd.int .u8) _ 5 ?hg (N:=8) ?hd (xs:=([]:List Int)) (inner:=[]) (ok:=fun _=>True) (okp:=fun _=>True) ?hr ?hp (fun _ hk=>hk) trivial (Below.refl _ _) (Nat.le_refl _) (by simp) ?_;(case hd=>rfl);(case hg=>rfl);(case hr=>first | (go_simp;done) | (go_simp;rfl));(case hp=>exact (Reps.none _ _));intro v557 w3 ho4 hb hg_ hnew_;clear hg_ hnew_;(first | rw [← Ny556.out] at ho4 | (simp only [Int.reduceToNat] at ho4;rw [← Ny556.out] at ho4));have n0_:=Aside0.mk (Kd.R_lower ho4 (below_size zB));have n1_:=Aside0.mk (below_step zB hb);clear HB;have HO558:=n0_;have HB:=n1_;clear n0_ n1_;clear hb ho4))
 go_loopg [5,6] k (fun kq v5 v6 w'=>∃ (x5_1:List Int) (x6_1:Int),v6 = .int .i64 x6_1 ∧ Aside0 (stoaref01_Cat.l0 kq l0 l1 x5_1 x6_1 = some r) ∧ Aside0 (kq ≤ k) ∧ Aside0 (Kd.R (Kd.int .u8) 5 w' w.heap.size (fun _=>True) v5 x5_1) ∧ Aside0 (Below w.heap.size w w'))
 case atStart=>exact ⟨(y556),(0),zF,H',⟨Nat.le_refl _⟩,⟨zR HO558.out⟩,⟨zB⟩⟩
 case round =>
  clear H'
  try clear c1
  try clear p2
  try clear c4
  obtain ⟨x5_1,x6_1,rfl,HA,HK1,HO_5,HB⟩:=hrel
  cases gk with
  | zero=>exact absurd HA.out (by simp [stoaref01_Cat.l0])
  | succ k1 =>
   have H:=HA.out
   clear HA
   simp only [stoaref01_Cat.l0] at H
   by_cases c5:x6_1 < (l0.length:Int)
   ·rw [if_pos c5] at H
    have c5b0:=decide_eq_true c5
    clear c5
    by_cases c6:0 ≤ x6_1
    ·rw [if_pos c6] at H
     have c6b0:=decide_eq_true c6
     clear c6
     by_cases c7:x5_1.length < 140737488355328
     ·rw [if_pos c7] at H
      have LMc7:=Aside0.mk c7
      clear c7
      obtain ⟨y560,hy560⟩:∃ y_:List Int,y_ = (x5_1 ++ [rd l0 x6_1]):=⟨_,rfl⟩
      replace H:(stoaref01_Cat.l0 k1 l0 l1 y560 (wrap64 (x6_1 + 1))) = some r:=by first | (rw [hy560];with_reducible exact H) | (have H2_:=(Option.bind_some _ _).symm.trans H;rw [hy560];with_reducible exact H2_) | (have H2_:=(Option.bind_some _ _).symm.trans H;with_reducible exact H2_) | with_reducible exact H | (rw [hy560];exact H) | exact H
      have Ny560:=Aside0.mk hy560
      clear hy560
      have H':=Aside0.mk H
      clear H
      have p559:0 ≤ (x6_1:Int):=of_decide_eq_true zA
      have q559:x6_1 < (l0.length:Int):=of_decide_eq_true zA
      obtain ⟨ad559,e559,hx559_0⟩:=Kd.at_int HR0.out x6_1 p559 q559
      cases e559
      replace hx559_0:=(HB.out.cell (World.block_lt_of_cell? w _ hx559_0)).trans hx559_0
      replace p559:=eq_true p559
      replace q559:=eq_true q559
      go_wp2_with (first | ((with_reducible refine gate_builtin (b:=.append) (xs:=#[.tmp 15,.tmp 20]) rfl ?_);at_builtin;refine Kd.R_append (Kd.int .u8) (w0:=w) w.heap.size rfl (.tmp 15) (.tmp 20) 25 5 (.int .u8 0) 1 rfl Tryz.underlying25 info5 rfl (by decide) (by omega) u5 x5_1 (rd l0 x6_1) [.int .u8 (rd l0 x6_1)] (fun _=>True) (fun _=>False) rfl rfl ?aP (fun _ hk=>hk.elim) ?aF ?aO ?aB ?aS ?aL ?_;(case aP=>exact rfl);(case aB=>exact zB);(case aF=>exact fun _ _=>trivial);(case aO=>exact (zR HO_5.out));(case aS=>exact (below_size zB));(case aL=>have:=LMc7.out;omega);intro v561 w8 ho hb hg hat;rw [← Ny560.out] at ho;have n0_:=Aside0.mk (hb);have n1_:=Aside0.mk (ho);clear HB;clear HO_5;have HB:=n0_;have HO562:=n1_;clear n0_ n1_;clear ho hb hg hat))
      go_roundg k1
      case measure=>have:=HK1.out;omega
      case rel=>exact ⟨(y560),(wrap64 (x6_1 + 1)),zF,H',⟨by have:=HK1.out;omega⟩,⟨zR HO562.out⟩,⟨zB⟩⟩
     ·rw [if_neg c7] at H
      exact absurd H (by simp)
    ·rw [if_neg c6] at H
     exact absurd H (by simp)
   ·rw [if_neg c5] at H
    have c5b0:=decide_eq_false c5
    clear c5
    have H':=Aside0.mk H
    clear H
    go_wp2
    go_loopg [5,7] k1 (fun kq v5 v7 w'=>∃ (x5_2:List Int) (x7_2:Int),v7 = .int .i64 x7_2 ∧ Aside0 (stoaref01_Cat.l1 kq l1 x5_2 x7_2 = some r) ∧ Aside0 (kq ≤ k1) ∧ Aside0 (Kd.R (Kd.int .u8) 5 w' w.heap.size (fun _=>True) v5 x5_2) ∧ Aside0 (Below w.heap.size w w'))
    case atStart=>exact ⟨(x5_1),(0),zF,H',⟨Nat.le_refl _⟩,⟨zR HO_5.out⟩,⟨zB⟩⟩
    case round =>
     clear H'
     try clear c1
     try clear p2
     try clear c4
     try clear c5
     try clear c5b0
     try clear p5
     try clear q5
     try clear hx5
     try clear c6
     try clear c6b0
     try clear p6
     try clear c7
     try clear hx559_0
     try clear p2
     try clear p559
     try clear q559
     obtain ⟨x5_2,x7_2,rfl,HA,HK2,HO_5,HB⟩:=hrel
     cases gk with
     | zero=>exact absurd HA.out (by simp [stoaref01_Cat.l1])
     | succ k2 =>
      have H:=HA.out
      clear HA
      simp only [stoaref01_Cat.l1] at H
      by_cases c9:x7_2 < (l1.length:Int)
      ·rw [if_pos c9] at H
       have c9b0:=decide_eq_true c9
       clear c9
       by_cases c10:0 ≤ x7_2
       ·rw [if_pos c10] at H
        have c10b0:=decide_eq_true c10
        clear c10
        by_cases c11:x5_2.length < 140737488355328
        ·rw [if_pos c11] at H
         have LMc11:=Aside0.mk c11
         clear c11
         obtain ⟨y564,hy564⟩:∃ y_:List Int,y_ = (x5_2 ++ [rd l1 x7_2]):=⟨_,rfl⟩
         replace H:(stoaref01_Cat.l1 k2 l1 y564 (wrap64 (x7_2 + 1))) = some r:=by first | (rw [hy564];with_reducible exact H) | (have H2_:=(Option.bind_some _ _).symm.trans H;rw [hy564];with_reducible exact H2_) | (have H2_:=(Option.bind_some _ _).symm.trans H;with_reducible exact H2_) | with_reducible exact H | (rw [hy564];exact H) | exact H
         have Ny564:=Aside0.mk hy564
         clear hy564
         have H':=Aside0.mk H
         clear H
         have p563:0 ≤ (x7_2:Int):=of_decide_eq_true zA
         have q563:x7_2 < (l1.length:Int):=of_decide_eq_true zA
         obtain ⟨ad563,e563,hx563_0⟩:=Kd.at_int HR1.out x7_2 p563 q563
         cases e563
         replace hx563_0:=(HB.out.cell (World.block_lt_of_cell? w _ hx563_0)).trans hx563_0
         replace p563:=eq_true p563
         replace q563:=eq_true q563
         go_wp2_with (first | ((with_reducible refine gate_builtin (b:=.append) (xs:=#[.tmp 28,.tmp 33]) rfl ?_);at_builtin;refine Kd.R_append (Kd.int .u8) (w0:=w) w.heap.size rfl (.tmp 28) (.tmp 33) 25 5 (.int .u8 0) 1 rfl Tryz.underlying25 info5 rfl (by decide) (by omega) u5 x5_2 (rd l1 x7_2) [.int .u8 (rd l1 x7_2)] (fun _=>True) (fun _=>False) rfl rfl ?aP (fun _ hk=>hk.elim) ?aF ?aO ?aB ?aS ?aL ?_;(case aP=>exact rfl);(case aB=>exact zB);(case aF=>exact fun _ _=>trivial);(case aO=>exact (zR HO_5.out));(case aS=>exact (below_size zB));(case aL=>have:=LMc11.out;omega);intro v565 w12 ho hb hg hat;rw [← Ny564.out] at ho;have n0_:=Aside0.mk (hb);have n1_:=Aside0.mk (ho);clear HB;clear HO_5;have HB:=n0_;have HO566:=n1_;clear n0_ n1_;clear ho hb hg hat))
         go_roundg k2
         case measure=>have:=HK1.out;have:=HK2.out;omega
         case rel=>exact ⟨(y564),(wrap64 (x7_2 + 1)),zF,H',⟨by have:=HK1.out;have:=HK2.out;omega⟩,⟨zR HO566.out⟩,⟨zB⟩⟩
        ·rw [if_neg c11] at H
         exact absurd H (by simp)
       ·rw [if_neg c10] at H
        exact absurd H (by simp)
      ·rw [if_neg c9] at H
       have c9b0:=decide_eq_false c9
       clear c9
       obtain rfl:=Option.some.inj H
       go_wp2
       go_ret
       exact ⟨_,zG,zR HO_5.out,zB⟩
def stoaref01_Low.l0:Nat → Int → Int → List Int → Int → Option (List Int)
 | 0,_,_,_,_=>none
 | k + 1,x0,x1,x5,x6=>if x6 < x1 then (if x5.length < 140737488355328 then (stoaref01_Low.l0 k (IntKind.u64.wrap (Int.tdiv x0 256)) x1 (x5 ++ [(Int.tmod x0 256) % 256]) (wrap64 (x6 + 1))) else (none)) else (some x5)
def stoaref01_Low.f (k:Nat) (a0:Int) (a1:Int):Option (List Int):=stoaref01_Low.l0 k a0 a1 (([]:List Int)) 0
set_option maxHeartbeats 8000000 in
set_option maxRecDepth 100000 in
theorem stoaref01_Low.calls (k:Nat) (a0:Int) (a1:Int) (r:List Int) (w:World) (h:stoaref01_Low.f k a0 a1 = some r) :
  Calls Tryz.prog 48 #[.int .u64 a0,.int .i64 a1] w fun e w'=>∃ v0_:Value,e = .returned (v0_) ∧ Kd.R (Kd.int .u8) 5 w' w.heap.size (fun _=>True) v0_ r ∧ Below w.heap.size w w':=by
 have HB:=Aside0.mk (Below.refl w.heap.size w)
 have H:(stoaref01_Low.l0 k a0 a1 (([]:List Int)) 0) = some r:=h
 clear h
 obtain ⟨y567,hy567⟩:∃ y_:List Int,y_ = (([]:List Int)):=⟨_,rfl⟩
 replace H:(stoaref01_Low.l0 k a0 a1 y567 0) = some r:=by first | (rw [hy567];with_reducible exact H) | (have H2_:=(Option.bind_some _ _).symm.trans H;rw [hy567];with_reducible exact H2_) | (have H2_:=(Option.bind_some _ _).symm.trans H;with_reducible exact H2_) | with_reducible exact H | (rw [hy567];exact H) | exact H
 have Ny567:=Aside0.mk hy567
 clear hy567
 have H':=Aside0.mk H
 clear H
 go_enter Tryz.func48,Tryz.ntmps48
 go_wp2_with (first | ((with_reducible refine gate_dst (N:=7) rfl ?_);refine Kd.R_lit (Kd.int .u8) _ 5 ?hg (N:=7) ?hd (xs:=([]:List Int)) (inner:=[]) (ok:=fun _=>True) (okp:=fun _=>True) ?hr ?hp (fun _ hk=>hk) trivial (Below.refl _ _) (Nat.le_refl _) (by simp) ?_;(case hd=>rfl);(case hg=>rfl);(case hr=>first | (go_simp;done) | (go_simp;rfl));(case hp=>exact (Reps.none _ _));intro v568 w3 ho4 hb hg_ hnew_;clear hg_ hnew_;(first | rw [← Ny567.out] at ho4 | (simp only [Int.reduceToNat] at ho4;rw [← Ny567.out] at ho4));have n0_:=Aside0.mk (Kd.R_lower ho4 (below_size zB));have n1_:=Aside0.mk (below_step zB hb);clear HB;have HO569:=n0_;have HB:=n1_;clear n0_ n1_;clear hb ho4))
 go_loopg [0,5,6] k (fun kq v0 v5 v6 w'=>∃ (x0_1:Int) (x5_1:List Int) (x6_1:Int),v0 = .int .u64 x0_1 ∧ v6 = .int .i64 x6_1 ∧ Aside0 (stoaref01_Low.l0 kq x0_1 a1 x5_1 x6_1 = some r) ∧ Aside0 (kq ≤ k) ∧ Aside0 (Kd.R (Kd.int .u8) 5 w' w.heap.size (fun _=>True) v5 x5_1) ∧ Aside0 (Below w.heap.size w w'))
 case atStart=>exact ⟨(a0),(y567),(0),zF,zF,H',⟨Nat.le_refl _⟩,⟨zR HO569.out⟩,⟨zB⟩⟩
 case round =>
  clear H'
  try clear p2
  try clear c4
  obtain ⟨x0_1,x5_1,x6_1,rfl,rfl,HA,HK1,HO_5,HB⟩:=hrel
  cases gk with
  | zero=>exact absurd HA.out (by simp [stoaref01_Low.l0])
  | succ k1 =>
   have H:=HA.out
   clear HA
   simp only [stoaref01_Low.l0] at H
   by_cases c5:x6_1 < a1
   ·rw [if_pos c5] at H
    have c5b0:=decide_eq_true c5
    clear c5
    by_cases c6:x5_1.length < 140737488355328
    ·rw [if_pos c6] at H
     have LMc6:=Aside0.mk c6
     clear c6
     obtain ⟨y570,hy570⟩:∃ y_:List Int,y_ = (x5_1 ++ [(Int.tmod x0_1 256) % 256]):=⟨_,rfl⟩
     replace H:(stoaref01_Low.l0 k1 (IntKind.u64.wrap (Int.tdiv x0_1 256)) a1 y570 (wrap64 (x6_1 + 1))) = some r:=by first | (rw [hy570];with_reducible exact H) | (have H2_:=(Option.bind_some _ _).symm.trans H;rw [hy570];with_reducible exact H2_) | (have H2_:=(Option.bind_some _ _).symm.trans H;with_reducible exact H2_) | with_reducible exact H | (rw [hy570];exact H) | exact H
     have Ny570:=Aside0.mk hy570
     clear hy570
     have H':=Aside0.mk H
     clear H
     go_wp2_with (first | ((with_reducible refine gate_builtin (b:=.append) (xs:=#[.tmp 13,.tmp 17]) rfl ?_);at_builtin;refine Kd.R_append (Kd.int .u8) (w0:=w) w.heap.size rfl (.tmp 13) (.tmp 17) 25 5 (.int .u8 0) 1 rfl Tryz.underlying25 info5 rfl (by decide) (by omega) u5 x5_1 ((Int.tmod x0_1 256) % 256) [.int .u8 ((Int.tmod x0_1 256) % 256)] (fun _=>True) (fun _=>False) rfl rfl ?aP (fun _ hk=>hk.elim) ?aF ?aO ?aB ?aS ?aL ?_;(case aP=>exact rfl);(case aB=>exact zB);(case aF=>exact fun _ _=>trivial);(case aO=>exact (zR HO_5.out));(case aS=>exact (below_size zB));(case aL=>have:=LMc6.out;omega);intro v571 w7 ho hb hg hat;rw [← Ny570.out] at ho;have n0_:=Aside0.mk (hb);have n1_:=Aside0.mk (ho);clear HB;clear HO_5;have HB:=n0_;have HO572:=n1_;clear n0_ n1_;clear ho hb hg hat))
     go_roundg k1
     case measure=>have:=HK1.out;omega
     case rel=>exact ⟨(IntKind.u64.wrap (Int.tdiv x0_1 256)),(y570),(wrap64 (x6_1 + 1)),zF,zF,H',⟨by have:=HK1.out;omega⟩,⟨zR HO572.out⟩,⟨zB⟩⟩
    ·rw [if_neg c6] at H
     exact absurd H (by simp)
   ·rw [if_neg c5] at H
    have c5b0:=decide_eq_false c5
    clear c5
    obtain rfl:=Option.some.inj H
    go_wp2
    go_ret
    exact ⟨_,zG,zR HO_5.out,zB⟩
mutual
def stoaref03_Sum.l0:Nat → List Int → Int → Int → Option (Int)
 | 0,_,_,_=>none
 | k + 1,x0,x3,x4=>if x4 < (x0.length:Int) then (if 0 ≤ x4 then (stoaref03_Sum.l1 k x0 (Go.bits .xor .u32 x3 ((rd x0 x4) % 4294967296)) x4 0) else (none)) else (some (Go.bits .xor .u32 x3 4294967295))
def stoaref03_Sum.l1:Nat → List Int → Int → Int → Int → Option (Int)
 | 0,_,_,_,_=>none
 | k + 1,x0,x3,x4,x5=>if x5 < 8 then (if (Int.tmod x3 2) = 1 then (stoaref03_Sum.l1 k x0 (Go.bits .xor .u32 ((Int.tdiv x3 2) % 4294967296) 2197175160) x4 (wrap64 (x5 + 1))) else (stoaref03_Sum.l1 k x0 ((Int.tdiv x3 2) % 4294967296) x4 (wrap64 (x5 + 1)))) else (stoaref03_Sum.l0 k x0 x3 (wrap64 (x4 + 1)))
end
def stoaref03_Sum.f (k:Nat) (l0:List Int):Option (Int):=stoaref03_Sum.l0 k l0 4294967295 0
set_option maxHeartbeats 8000000 in
set_option maxRecDepth 100000 in
theorem stoaref03_Sum.calls (k:Nat) (A0:Option Addr) (c0:Nat) (l0:List Int) (r:Int) (w:World) (hr0:Kd.C (Kd.int .u8) w A0 l0.length l0) (hc0:l0.length ≤ c0) (h:stoaref03_Sum.f k l0 = some r) :
  Calls Tryz.prog 49 #[.slice A0 l0.length c0] w fun e w'=>e = .returned (.int .u32 r) ∧ Drawn0 w w':=by
 have HR0:=Aside0.mk hr0
 have HC0:=Aside0.mk hc0
 clear hr0 hc0
 have H:(stoaref03_Sum.l0 k l0 4294967295 0) = some r:=h
 clear h
 have H':=Aside0.mk H
 clear H
 go_enter Tryz.func49,Tryz.ntmps49
 go_wp2
 go_loopg [3,4] k (fun kq v3 v4 w'=>∃ (x3_1:Int) (x4_1:Int),v3 = .int .u32 x3_1 ∧ v4 = .int .i64 x4_1 ∧ Aside0 (stoaref03_Sum.l0 kq l0 x3_1 x4_1 = some r) ∧ Aside0 (kq ≤ k) ∧ Drawn0 w w')
 case atStart=>exact ⟨(4294967295),(0),zF,zF,H',⟨Nat.le_refl _⟩,zD⟩
 case round =>
  clear H'
  obtain ⟨x3_1,x4_1,rfl,rfl,HA,HK1,⟨m1,rfl⟩⟩:=hrel
  cases gk with
  | zero=>exact absurd HA.out (by simp [stoaref03_Sum.l0])
  | succ k1 =>
   have H:=HA.out
   clear HA
   simp only [stoaref03_Sum.l0] at H
   by_cases c2:x4_1 < (l0.length:Int)
   ·rw [if_pos c2] at H
    have c2b0:=decide_eq_true c2
    clear c2
    by_cases c3:0 ≤ x4_1
    ·rw [if_pos c3] at H
     have c3b0:=decide_eq_true c3
     clear c3
     have H':=Aside0.mk H
     clear H
     have p573:0 ≤ (x4_1:Int):=of_decide_eq_true zA
     have q573:x4_1 < (l0.length:Int):=of_decide_eq_true zA
     obtain ⟨ad573,e573,hx573_0⟩:=Kd.at_int HR0.out x4_1 p573 q573
     cases e573
     replace p573:=eq_true p573
     replace q573:=eq_true q573
     go_wp2
     go_loopg [3,5] k1 (fun kq v3 v5 w'=>∃ (x3_2:Int) (x5_2:Int),v3 = .int .u32 x3_2 ∧ v5 = .int .i64 x5_2 ∧ Aside0 (stoaref03_Sum.l1 kq l0 x3_2 x4_1 x5_2 = some r) ∧ Aside0 (kq ≤ k1) ∧ Drawn0 w w')
     case atStart=>exact ⟨(Go.bits .xor .u32 x3_1 ((rd l0 x4_1) % 4294967296)),(0),zF,zF,H',⟨Nat.le_refl _⟩,zD⟩
     case round =>
      clear H'
      try clear c2
      try clear c2b0
      try clear p2
      try clear c3
      try clear c3b0
      try clear hx573_0
      try clear p573
      try clear q573
      obtain ⟨x3_2,x5_2,rfl,rfl,HA,HK2,⟨m2,rfl⟩⟩:=hrel
      cases gk with
      | zero=>exact absurd HA.out (by simp [stoaref03_Sum.l1])
      | succ k2 =>
       have H:=HA.out
       clear HA
       simp only [stoaref03_Sum.l1] at H
       by_cases c4:x5_2 < 8
       ·rw [if_pos c4] at H
        have c4b0:=decide_eq_true c4
        clear c4
        by_cases c5:(Int.tmod x3_2 2) = 1
        ·rw [if_pos c5] at H
         have c5b0:((Int.tmod x3_2 2) == 1) = true:=beq_iff_eq.mpr c5
         have c5b1:((Int.tmod x3_2 2) != 1) = false:=bne_eq_false_iff_eq.mpr c5
         clear c5
         have H':=Aside0.mk H
         clear H
         go_wp2
         go_roundg k2
         case measure=>have:=HK1.out;have:=HK2.out;omega
         case rel=>exact ⟨(Go.bits .xor .u32 ((Int.tdiv x3_2 2) % 4294967296) 2197175160),(wrap64 (x5_2 + 1)),zF,zF,H',⟨by have:=HK1.out;have:=HK2.out;omega⟩,zD⟩
        ·rw [if_neg c5] at H
         have c5b0:((Int.tmod x3_2 2) == 1) = false:=beq_eq_false_iff_ne.mpr c5
         have c5b1:((Int.tmod x3_2 2) != 1) = true:=bne_iff_ne.mpr c5
         have H':=Aside0.mk H
         clear H
         go_wp2
         go_roundg k2
         case measure=>have:=HK1.out;have:=HK2.out;omega
         case rel=>exact ⟨((Int.tdiv x3_2 2) % 4294967296),(wrap64 (x5_2 + 1)),zF,zF,H',⟨by have:=HK1.out;have:=HK2.out;omega⟩,zD⟩
       ·rw [if_neg c4] at H
        have c4b0:=decide_eq_false c4
        clear c4
        have H':=Aside0.mk H
        clear H
        go_wp2
        go_roundg k2
        case measure=>have:=HK1.out;have:=HK2.out;omega
        case rel=>exact ⟨(x3_2),(wrap64 (x4_1 + 1)),zF,zF,H',⟨by have:=HK1.out;have:=HK2.out;omega⟩,zD⟩
    ·rw [if_neg c3] at H
     exact absurd H (by simp)
   ·rw [if_neg c2] at H
    have c2b0:=decide_eq_false c2
    clear c2
    obtain rfl:=Option.some.inj H
    go_wp2
    go_ret
    exact ⟨zF,zD⟩
end Go.Proofs.YteeikgjjgfdjgaaGreat.PK
end
