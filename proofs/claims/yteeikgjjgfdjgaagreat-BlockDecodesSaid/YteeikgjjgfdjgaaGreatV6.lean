/-
  Parts of the proof: E2, E4, E10, E11.
-/
import Derived.Test.YteeikgjjgfdjgaaGreatV5
set_option maxHeartbeats 8000000
set_option maxRecDepth 100000
section
namespace Go.Proofs.YteeikgjjgfdjgaaGreat.PK
open Go.RowKit YteeikgjjgfdjgaaGreatW.PrintWords YteeikgjjgfdjgaaGreatW.PrintLast YteeikgjjgfdjgaaGreatW.PrintMore
attribute [local go_sem] yce ycf ycu ycv yb8 yb7 ycm yco
set_option linter.unusedVariables false
set_option linter.unusedSimpArgs false
mutual
def ya9.l0:Nat→Int→List Int→Int→List Int→Int→Int→Option (List Int×Int)
 | 0,_,_,_,_,_,_=>none
 | k+1,x0,x6,x7,x29,x30,x31=>if x31<x30 then (if 0≤x31 then (if x31<(x29.length:Int) then (ya9.l1 k x0 x6 x7 (rd x29 x31) x0 x29 x30 x31) else (none)) else (none)) else (some (x6,0))
def ya9.l1:Nat→Int→List Int→Int→Int→Int→List Int→Int→Int→Option (List Int×Int)
 | 0,_,_,_,_,_,_,_,_=>none
 | k+1,x0,x6,x7,x9,x10,x29,x30,x31=>if x10 > 0 then (if 0≤(x7 / 8) then (if (x7 / 8)<(x6.length:Int) then (if 0≤(IntKind.u64.wrap (mn (wrap64 (8-(Go.bits .and .i64 x7 7))) x10)) then (if 0≤(IntKind.u64.wrap (Go.bits .and .i64 x7 7)) then (ya9.l1 k x0 (x6.set ((x7 / 8):Int).toNat (Go.bits .or .u8 (rd x6 (x7 / 8)) (shl .u8 ((Go.bits .and .u64 x9 (IntKind.u64.wrap ((shl .u64 1 (IntKind.u64.wrap (mn (wrap64 (8-(Go.bits .and .i64 x7 7))) x10)))-1)))%256) (IntKind.u64.wrap (Go.bits .and .i64 x7 7))))) (wrap64 (x7+(mn (wrap64 (8-(Go.bits .and .i64 x7 7))) x10))) (shr .u64 x9 (IntKind.u64.wrap (mn (wrap64 (8-(Go.bits .and .i64 x7 7))) x10))) (wrap64 (x10-(mn (wrap64 (8-(Go.bits .and .i64 x7 7))) x10))) x29 x30 x31) else (none)) else (none)) else (none)) else (none)) else (ya9.l0 k x0 x6 x7 x29 x30 (wrap64 (x31+1)))
end
def ya9.f (k:Nat) (a0:Int) (l1:List Int):Option (List Int×Int):=(yc2.f a0).bind fun t122=>(if t122=true then (some (([]:List Int),1)) else (if (l1.length:Int) > 4096 then (some (([]:List Int),4)) else ((ybb.f k l1).bind fun t123=>(if t123 > a0 then (some (([]:List Int),10)) else ((ydg.f a0 (l1.length:Int)).bind fun t124=>(if 0≤t124 then (if (t124:Int).toNat≤281474976710656 then (ya9.l0 k a0 (List.replicate (t124:Int).toNat 0) 0 l1 (l1.length:Int) 0) else (none)) else (none)))))))
theorem ya9.calls (k:Nat) (a0:Int) (A1:Option Addr) (c1:Nat) (l1:List Int) (r1:List Int) (r2:Int) (w:World) (hr1:Kd.C (Kd.int .u64) w A1 l1.length l1) (hc1:l1.length≤c1) (h:ya9.f k a0 l1=some (r1,r2)) :
  Calls Tryz.prog 83 #[.int .i64 a0,.slice A1 l1.length c1] w fun e w'=>∃ v0_:Value,e=.returned (.tuple #[v0_,.int .i64 r2])∧Kd.R (Kd.int .u8) 5 w' w.heap.size (fun _=>True) v0_ r1∧Below w.heap.size w w':=by
 have HR1:=yaa.mk hr1
 have HC1:=yaa.mk hc1
 clear hr1 hc1
 have HB:=yaa.mk (Below.refl w.heap.size w)
 have H:((yc2.f a0).bind fun t122=>(if t122=true then (some (([]:List Int),1)) else (if (l1.length:Int) > 4096 then (some (([]:List Int),4)) else ((ybb.f k l1).bind fun t123=>(if t123 > a0 then (some (([]:List Int),10)) else ((ydg.f a0 (l1.length:Int)).bind fun t124=>(if 0≤t124 then (if (t124:Int).toNat≤281474976710656 then (ya9.l0 k a0 (List.replicate (t124:Int).toNat 0) 0 l1 (l1.length:Int) 0) else (none)) else (none))))))))=some (r1,r2):=h
 clear h
 replace H:=Option.bind_eq_some_iff.mp H
 obtain⟨t122,A30,H⟩:=H
 try dsimp only at H
 have A3:=yaa.mk A30
 clear A30
 by_cases c4:t122=true
 ·subst c4
  have H1:(some (([]:List Int),1))=some (r1,r2):=by rw[if_pos rfl] at H;exact H
  clear H
  have H:=H1
  clear H1
  simp only[Option.some.injEq,Prod.mk.injEq] at H
  obtain⟨rfl,rfl⟩:=H
  go_enter Tryz.func83,Tryz.ntmps83
  go_wp2_with (first|((with_reducible refine yad (f:=101) rfl ?_);refine yak (some 14) rfl rfl Tryz.func101 (by kernel_rfl) rfl #[.int .i64 a0] rfl zE ?_;(with_reducible refine(yc2.calls a0 true _ A3.out).mono ?_);rintro e w' ⟨rfl,⟨nd,rfl⟩⟩;refine⟨_,rfl,?_⟩))
  go_ret2
  exact⟨_,zG,zN,zB⟩
 ·replace c4:=Bool.eq_false_iff.mpr c4
  subst c4
  have H1:(if (l1.length:Int) > 4096 then (some (([]:List Int),4)) else ((ybb.f k l1).bind fun t123=>(if t123 > a0 then (some (([]:List Int),10)) else ((ydg.f a0 (l1.length:Int)).bind fun t124=>(if 0≤t124 then (if (t124:Int).toNat≤281474976710656 then (ya9.l0 k a0 (List.replicate (t124:Int).toNat 0) 0 l1 (l1.length:Int) 0) else (none)) else (none))))))=some (r1,r2):=by rw[if_neg (show ¬ (false=true) by decide)] at H;exact H
  clear H
  have H:=H1
  clear H1
  by_cases c5:(l1.length:Int) > 4096
  ·rw[if_pos c5] at H
   have c5b0:decide (4096<(l1.length:Int))=true:=decide_eq_true c5
   have c5b1:decide (4096<l1.length)=true:=decide_eq_true (by omega)
   clear c5
   simp only[Option.some.injEq,Prod.mk.injEq] at H
   obtain⟨rfl,rfl⟩:=H
   go_enter Tryz.func83,Tryz.ntmps83
   go_wp2_with (first|((with_reducible refine yad (f:=101) rfl ?_);refine yak (some 14) rfl rfl Tryz.func101 (by kernel_rfl) rfl #[.int .i64 a0] rfl zE ?_;(with_reducible refine(yc2.calls a0 false _ A3.out).mono ?_);rintro e w' ⟨rfl,⟨nd,rfl⟩⟩;refine⟨_,rfl,?_⟩))
   go_ret2
   exact⟨_,zG,zN,zB⟩
  ·rw[if_neg c5] at H
   have c5b0:decide (4096<(l1.length:Int))=false:=decide_eq_false c5
   have c5b1:decide (4096<l1.length)=false:=decide_eq_false (by omega)
   clear c5
   replace H:=Option.bind_eq_some_iff.mp H
   obtain⟨t123,A60,H⟩:=H
   try dsimp only at H
   have A6:=yaa.mk A60
   clear A60
   by_cases c7:t123 > a0
   ·rw[if_pos c7] at H
    have c7b0:decide (a0<t123)=true:=decide_eq_true c7
    clear c7
    simp only[Option.some.injEq,Prod.mk.injEq] at H
    obtain⟨rfl,rfl⟩:=H
    go_enter Tryz.func83,Tryz.ntmps83
    go_wp2_with (first|((with_reducible refine yad (f:=101) rfl ?_);refine yak (some 14) rfl rfl Tryz.func101 (by kernel_rfl) rfl #[.int .i64 a0] rfl zE ?_;(with_reducible refine(yc2.calls a0 false _ A3.out).mono ?_);rintro e w' ⟨rfl,⟨nd,rfl⟩⟩;refine⟨_,rfl,?_⟩)|((with_reducible refine yad (f:=64) rfl ?_);refine yak (some 21) rfl rfl Tryz.func64 (by kernel_rfl) rfl #[.slice A1 l1.length c1] rfl zE ?_;(with_reducible refine(ybb.calls k _ _ l1 t123 _ ?side1 ?side2 A6.out).mono ?_);(case side1=>exact zC HR1.out);(case side2=>exact HC1.out);rintro e w' ⟨rfl,⟨nd,rfl⟩⟩;refine⟨_,rfl,?_⟩))
    go_ret2
    exact⟨_,zG,zN,zB⟩
   ·rw[if_neg c7] at H
    have c7b0:decide (a0<t123)=false:=decide_eq_false c7
    clear c7
    replace H:=Option.bind_eq_some_iff.mp H
    obtain⟨t124,A80,H⟩:=H
    try dsimp only at H
    have A8:=yaa.mk A80
    clear A80
    by_cases c9:0≤t124
    ·rw[if_pos c9] at H
     have c9b0:=eq_true c9
     have c9b1:=decide_eq_true c9
     clear c9
     by_cases c10:(t124:Int).toNat≤281474976710656
     ·rw[if_pos c10] at H
      have c10b0:=eq_true c10
      have c10b1:=decide_eq_true c10
      clear c10
      obtain⟨y125,hy125⟩:∃ y_:List Int,y_=(List.replicate (t124:Int).toNat 0):=⟨_,rfl⟩
      replace H:(ya9.l0 k a0 y125 0 l1 (l1.length:Int) 0)=some (r1,r2):=by first|(rw[hy125];with_reducible exact H)|(have H2_:=(Option.bind_some _ _).symm.trans H;rw[hy125];with_reducible exact H2_)|(have H2_:=(Option.bind_some _ _).symm.trans H;with_reducible exact H2_)|with_reducible exact H|(rw[hy125];exact H)|exact H
      have Ny125:=yaa.mk hy125
      clear hy125
      have H':=yaa.mk H
      clear H
      go_enter Tryz.func83,Tryz.ntmps83
      go_wp2_with (first|((with_reducible refine yad (f:=101) rfl ?_);refine yak (some 14) rfl rfl Tryz.func101 (by kernel_rfl) rfl #[.int .i64 a0] rfl zE ?_;(with_reducible refine(yc2.calls a0 false _ A3.out).mono ?_);rintro e w' ⟨rfl,⟨nd,rfl⟩⟩;refine⟨_,rfl,?_⟩)|((with_reducible refine yad (f:=64) rfl ?_);refine yak (some 21) rfl rfl Tryz.func64 (by kernel_rfl) rfl #[.slice A1 l1.length c1] rfl zE ?_;(with_reducible refine(ybb.calls k _ _ l1 t123 _ ?side1 ?side2 A6.out).mono ?_);(case side1=>exact zC HR1.out);(case side2=>exact HC1.out);rintro e w' ⟨rfl,⟨nd,rfl⟩⟩;refine⟨_,rfl,?_⟩)|((with_reducible refine yad (f:=102) rfl ?_);refine yak (some 27) rfl rfl Tryz.func102 (by kernel_rfl) rfl #[.int .i64 a0,.int .i64 (l1.length:Int)] rfl zE ?_;(with_reducible refine(ydg.calls a0 (l1.length:Int) t124 _ A8.out).mono ?_);rintro e w' ⟨rfl,⟨nd,rfl⟩⟩;refine⟨_,rfl,?_⟩)|((with_reducible refine yb1 (N:=28) rfl ?_);refine Kd.R_make (Kd.int .u8) _ 5 rfl (N:=28) rfl 25 _ _ rfl t124 rfl rfl Tryz.underlying25 (.int .u8 0) 1 ycj rfl (by decide) (by omega) 0 (ok:=fun _=>True) (okp:=fun _=>True) rfl (fun _ hk=>hk) trivial (of_decide_eq_true zA) (Nat.le_trans (Nat.mul_le_mul_right _ (of_decide_eq_true zA:t124.toNat≤281474976710656)) (by omega)) (Below.refl _ _) (Nat.le_refl _) ?_;intro v126 w11 ho12 hb hg_ hnew_;clear hg_ hnew_;(first|rw[← Ny125.out] at ho12|(simp only[Int.reduceToNat] at ho12;rw[← Ny125.out] at ho12));have n0_:=yaa.mk (Kd.R_lower ho12 (yaf zB));have n1_:=yaa.mk (yai zB hb);clear HB;have HO127:=n0_;have HB:=n1_;clear n0_ n1_;clear hb ho12))
      go_loopg [7,31] k (fun kq v7 v31 w'=>∃ (x6_1:List Int) (x7_1:Int) (x31_1:Int),v7=.int .i64 x7_1∧v31=.int .i64 x31_1∧yaa (ya9.l0 kq a0 x6_1 x7_1 l1 (l1.length:Int) x31_1=some (r1,r2))∧yaa (kq≤k)∧yaa (Kd.R (Kd.int .u8) 5 w' w.heap.size (fun _=>True) v126 x6_1)∧yaa (Below w.heap.size w w'))
      case atStart=>exact⟨(y125),(0),(0),zF,zF,H',⟨Nat.le_refl _⟩,⟨zR HO127.out⟩,⟨zB⟩⟩
      case round =>
       clear H'
       try clear c1
       try clear p2
       try clear c4
       try clear c5
       try clear c5b0
       try clear c5b1
       try clear c6
       try clear c7
       try clear c7b0
       try clear c8
       try clear c9
       try clear c9b0
       try clear c9b1
       try clear c10
       try clear c10b0
       try clear c10b1
       obtain⟨x6_1,x7_1,x31_1,rfl,rfl,HA,HK1,HO_6,HB⟩:=hrel
       cases gk with
       | zero=>exact absurd HA.out (by simp [ya9.l0])
       | succ k1 =>
        have H:=HA.out
        clear HA
        simp only[ya9.l0] at H
        by_cases c13:x31_1<(l1.length:Int)
        ·rw[if_pos c13] at H
         have c13b0:=decide_eq_true c13
         clear c13
         by_cases c14:0≤x31_1
         ·rw[if_pos c14] at H
          have c14b0:=decide_eq_true c14
          clear c14
          by_cases c15:x31_1<(l1.length:Int)
          ·rw[if_pos c15] at H
           have c15b0:=decide_eq_true c15
           clear c15
           have H':=yaa.mk H
           clear H
           have p128:0≤(x31_1:Int):=of_decide_eq_true zA
           have q128:x31_1<(l1.length:Int):=of_decide_eq_true zA
           obtain⟨ad128,e128,hx128_0⟩:=Kd.at_int HR1.out x31_1 p128 q128
           cases e128
           replace hx128_0:=(HB.out.cell (World.block_lt_of_cell? w _ hx128_0)).trans hx128_0
           replace p128:=eq_true p128
           replace q128:=eq_true q128
           go_wp2
           go_loopg [7,9,10] k1 (fun kq v7 v9 v10 w'=>∃ (x6_2:List Int) (x7_2:Int) (x9_2:Int) (x10_2:Int),v7=.int .i64 x7_2∧v9=.int .u64 x9_2∧v10=.int .i64 x10_2∧yaa (ya9.l1 kq a0 x6_2 x7_2 x9_2 x10_2 l1 (l1.length:Int) x31_1=some (r1,r2))∧yaa (kq≤k1)∧yaa (Kd.R (Kd.int .u8) 5 w' w.heap.size (fun _=>True) v126 x6_2)∧yaa (Below w.heap.size w w'))
           case atStart=>exact⟨(x6_1),(x7_1),(rd l1 x31_1),(a0),zF,zF,zF,H',⟨Nat.le_refl _⟩,⟨zR HO_6.out⟩,⟨zB⟩⟩
           case round =>
            clear H'
            try clear c1
            try clear p1
            try clear q1
            try clear hx1
            try clear p2
            try clear c4
            try clear c5
            try clear c5b0
            try clear c5b1
            try clear c6
            try clear c7
            try clear c7b0
            try clear c8
            try clear c9
            try clear c9b0
            try clear c9b1
            try clear c10
            try clear c10b0
            try clear c10b1
            try clear p12
            try clear q12
            try clear hx12
            try clear c13
            try clear c13b0
            try clear c14
            try clear c14b0
            try clear c15
            try clear c15b0
            try clear hx128_0
            try clear p128
            try clear p2
            try clear q128
            obtain⟨x6_2,x7_2,x9_2,x10_2,rfl,rfl,rfl,HA,HK2,HO_6,HB⟩:=hrel
            cases gk with
            | zero=>exact absurd HA.out (by simp [ya9.l1])
            | succ k2 =>
             have H:=HA.out
             clear HA
             simp only[ya9.l1] at H
             by_cases c16:x10_2 > 0
             ·rw[if_pos c16] at H
              have c16b0:decide (0<x10_2)=true:=decide_eq_true c16
              clear c16
              obtain⟨ji17,hji17⟩:∃ j_:Int,(mn (wrap64 (8-(Go.bits .and .i64 x7_2 7))) x10_2)=j_:=⟨_,rfl⟩
              replace H:(if 0≤(x7_2 / 8) then (if (x7_2 / 8)<(x6_2.length:Int) then (if 0≤(IntKind.u64.wrap (ji17)) then (if 0≤(IntKind.u64.wrap (Go.bits .and .i64 x7_2 7)) then (ya9.l1 k2 a0 (x6_2.set ((x7_2 / 8):Int).toNat (Go.bits .or .u8 (rd x6_2 (x7_2 / 8)) (shl .u8 ((Go.bits .and .u64 x9_2 (IntKind.u64.wrap ((shl .u64 1 (IntKind.u64.wrap (ji17)))-1)))%256) (IntKind.u64.wrap (Go.bits .and .i64 x7_2 7))))) (wrap64 (x7_2+(ji17))) (shr .u64 x9_2 (IntKind.u64.wrap (ji17))) (wrap64 (x10_2-(ji17))) l1 (l1.length:Int) x31_1) else (none)) else (none)) else (none)) else (none))=some (r1,r2):=by first|(rw[hji17] at H;exact H)|(simp only[hji17] at H ⊢;exact H)
              have hji17_:(if x10_2<(wrap64 (8-(Go.bits .and .i64 x7_2 7))) then x10_2 else (wrap64 (8-(Go.bits .and .i64 x7_2 7))))=ji17:=hji17
              obtain⟨ji18,hji18⟩:∃ j_:Int,(x7_2 / 8)=j_:=⟨_,rfl⟩
              replace H:(if 0≤(ji18) then (if (ji18)<(x6_2.length:Int) then (if 0≤(IntKind.u64.wrap (ji17)) then (if 0≤(IntKind.u64.wrap (Go.bits .and .i64 x7_2 7)) then (ya9.l1 k2 a0 (x6_2.set ((ji18):Int).toNat (Go.bits .or .u8 (rd x6_2 (ji18)) (shl .u8 ((Go.bits .and .u64 x9_2 (IntKind.u64.wrap ((shl .u64 1 (IntKind.u64.wrap (ji17)))-1)))%256) (IntKind.u64.wrap (Go.bits .and .i64 x7_2 7))))) (wrap64 (x7_2+(ji17))) (shr .u64 x9_2 (IntKind.u64.wrap (ji17))) (wrap64 (x10_2-(ji17))) l1 (l1.length:Int) x31_1) else (none)) else (none)) else (none)) else (none))=some (r1,r2):=by first|(rw[hji18] at H;exact H)|(simp only[hji18] at H ⊢;exact H)
              by_cases c19:0≤(ji18)
              ·rw[if_pos c19] at H
               have c19b0:=decide_eq_true c19
               clear c19
               by_cases c20:(ji18)<(x6_2.length:Int)
               ·rw[if_pos c20] at H
                have c20b0:=decide_eq_true c20
                clear c20
                obtain⟨ji21,hji21⟩:∃ j_:Int,(IntKind.u64.wrap (ji17))=j_:=⟨_,rfl⟩
                replace H:(if 0≤(ji21) then (if 0≤(IntKind.u64.wrap (Go.bits .and .i64 x7_2 7)) then (ya9.l1 k2 a0 (x6_2.set ((ji18):Int).toNat (Go.bits .or .u8 (rd x6_2 (ji18)) (shl .u8 ((Go.bits .and .u64 x9_2 (IntKind.u64.wrap ((shl .u64 1 (ji21))-1)))%256) (IntKind.u64.wrap (Go.bits .and .i64 x7_2 7))))) (wrap64 (x7_2+(ji17))) (shr .u64 x9_2 (ji21)) (wrap64 (x10_2-(ji17))) l1 (l1.length:Int) x31_1) else (none)) else (none))=some (r1,r2):=by first|(rw[hji21] at H;exact H)|(simp only[hji21] at H ⊢;exact H)
                by_cases c22:0≤(ji21)
                ·rw[if_pos c22] at H
                 have c22b0:=eq_true c22
                 have c22b1:=decide_eq_true c22
                 clear c22
                 obtain⟨ji23,hji23⟩:∃ j_:Int,(shl .u64 1 (ji21))=j_:=⟨_,rfl⟩
                 replace H:(if 0≤(IntKind.u64.wrap (Go.bits .and .i64 x7_2 7)) then (ya9.l1 k2 a0 (x6_2.set ((ji18):Int).toNat (Go.bits .or .u8 (rd x6_2 (ji18)) (shl .u8 ((Go.bits .and .u64 x9_2 (IntKind.u64.wrap ((ji23)-1)))%256) (IntKind.u64.wrap (Go.bits .and .i64 x7_2 7))))) (wrap64 (x7_2+(ji17))) (shr .u64 x9_2 (ji21)) (wrap64 (x10_2-(ji17))) l1 (l1.length:Int) x31_1) else (none))=some (r1,r2):=by first|(rw[hji23] at H;exact H)|(simp only[hji23] at H ⊢;exact H)
                 have hji23_:(IntKind.u64.wrap (1*2^min (ji21).toNat 64))=ji23:=hji23
                 have hji23z:(ji21)≤64→(IntKind.u64.wrap (1*2^(ji21).toNat))=ji23:=yhc hji23
                 have hji23u:(IntKind.u64.wrap (2^min (ji21).toNat 64))=ji23:=by have h_:=hji23_;rw[Int.one_mul] at h_;exact h_
                 have hji23v:(ji21)≤64→(IntKind.u64.wrap (2^(ji21).toNat))=ji23:=fun hle_=>by have h_:=hji23z hle_;rw[Int.one_mul] at h_;exact h_
                 obtain⟨ji24,hji24⟩:∃ j_:Int,(IntKind.u64.wrap (Go.bits .and .i64 x7_2 7))=j_:=⟨_,rfl⟩
                 replace H:(if 0≤(ji24) then (ya9.l1 k2 a0 (x6_2.set ((ji18):Int).toNat (Go.bits .or .u8 (rd x6_2 (ji18)) (shl .u8 ((Go.bits .and .u64 x9_2 (IntKind.u64.wrap ((ji23)-1)))%256) (ji24)))) (wrap64 (x7_2+(ji17))) (shr .u64 x9_2 (ji21)) (wrap64 (x10_2-(ji17))) l1 (l1.length:Int) x31_1) else (none))=some (r1,r2):=by first|(rw[hji24] at H;exact H)|(simp only[hji24] at H ⊢;exact H)
                 by_cases c25:0≤(ji24)
                 ·rw[if_pos c25] at H
                  have c25b0:=eq_true c25
                  have c25b1:=decide_eq_true c25
                  clear c25
                  obtain⟨ji26,hji26⟩:∃ j_:Int,(shl .u8 ((Go.bits .and .u64 x9_2 (IntKind.u64.wrap ((ji23)-1)))%256) (ji24))=j_:=⟨_,rfl⟩
                  replace H:(ya9.l1 k2 a0 (x6_2.set ((ji18):Int).toNat (Go.bits .or .u8 (rd x6_2 (ji18)) (ji26))) (wrap64 (x7_2+(ji17))) (shr .u64 x9_2 (ji21)) (wrap64 (x10_2-(ji17))) l1 (l1.length:Int) x31_1)=some (r1,r2):=by first|(rw[hji26] at H;exact H)|(simp only[hji26] at H ⊢;exact H)
                  have hji26_:(IntKind.u8.wrap (((Go.bits .and .u64 x9_2 (IntKind.u64.wrap ((ji23)-1)))%256)*2^min (ji24).toNat 8))=ji26:=hji26
                  have hji26z:(ji24)≤8→(IntKind.u8.wrap (((Go.bits .and .u64 x9_2 (IntKind.u64.wrap ((ji23)-1)))%256)*2^(ji24).toNat))=ji26:=yhc hji26
                  obtain⟨y130,hy130⟩:∃ y_:List Int,y_=(x6_2.set ((ji18):Int).toNat (Go.bits .or .u8 (rd x6_2 (ji18)) (ji26))):=⟨_,rfl⟩
                  replace H:(ya9.l1 k2 a0 y130 (wrap64 (x7_2+(ji17))) (shr .u64 x9_2 (ji21)) (wrap64 (x10_2-(ji17))) l1 (l1.length:Int) x31_1)=some (r1,r2):=by first|(rw[hy130];with_reducible exact H)|(have H2_:=(Option.bind_some _ _).symm.trans H;rw[hy130];with_reducible exact H2_)|(have H2_:=(Option.bind_some _ _).symm.trans H;with_reducible exact H2_)|with_reducible exact H|(rw[hy130];exact H)|exact H
                  have Ny130:=yaa.mk hy130
                  clear hy130
                  have c28b0:=eq_true (of_decide_eq_true zA:0≤(ji21))
                  obtain⟨ji29,hji29⟩:∃ j_:Int,(shr .u64 x9_2 (ji21))=j_:=⟨_,rfl⟩
                  replace H:(ya9.l1 k2 a0 y130 (wrap64 (x7_2+(ji17))) ji29 (wrap64 (x10_2-(ji17))) l1 (l1.length:Int) x31_1)=some (r1,r2):=by first|(rw[hji29] at H;exact H)|(simp only[hji29] at H ⊢;exact H)
                  have hji29_:(x9_2 / 2^min (ji21).toNat 64)=ji29:=hji29
                  have hji29z:(ji21)≤64→(x9_2 / 2^(ji21).toNat)=ji29:=yj8 hji29
                  have H':=yaa.mk H
                  clear H
                  obtain⟨Ao30,co30,eo30⟩:=Kd.R_slice HO_6.out
                  subst eo30
                  have p129:0≤((ji18):Int):=of_decide_eq_true zA
                  have q129:(ji18)<(x6_2.length:Int):=of_decide_eq_true zA
                  obtain⟨ad129,e129,hx129_0⟩:=Kd.at_int (Kd.R_reads' HO_6.out).2.2 (ji18) p129 q129
                  cases e129
                  replace p129:=eq_true p129
                  replace q129:=eq_true q129
                  have p27:0≤((ji18):Int):=of_decide_eq_true zA
                  have q27:((ji18):Int)<((x6_2.length:Int):Int):=of_decide_eq_true zA
                  obtain⟨go27,co27,eo27,gb27,gl27,cl27,HG27⟩:=Kd.R_form HO_6.out (by omega)
                  (first|cases eo27|(injection eo27 with ea_ en_ ec_;(first|subst ea_|(injection ea_ with ea_;subst ea_));subst ec_;clear en_))
                  have GB27:=yaa.mk gb27
                  have GG27:=yaa.mk HG27
                  clear gb27 gl27 HG27
                  (first|simp only[ydl] at hx129_0|skip)
                  obtain⟨hx27_0,hf27_0⟩:=Kd.R_celln 0 HO_6.out ((ji18):Int) p27 q27
                  replace p27:=eq_true p27
                  replace q27:=eq_true q27
                  have HP31:=Kd.R_putg HO_6.out ((ji18):Int) (Go.bits .or .u8 (rd x6_2 (ji18)) (ji26))
                  go_wp2_with (first|((with_reducible refine yfu (t:=5) (p:=60) rfl ?_);refine yfc (t:=5) (p:=60) (v:=?vo_w32) (w1:=(wr.setCell ⟨go27,((ji18):Int).toNat,none⟩ (.int .u8 (Go.bits .or .u8 (rd x6_2 (ji18)) (ji26))))) ?hg ?ho ?hn ?hr ?_;(case ho=>rfl);(case hg=>rfl);(case hn=>rfl);(case hr=>first|(go_simp;done)|(go_simp;rfl));intro w32 hw;have hg:wr.grownBy w32 (some go27):=(by rw[hw];exact HP31.2);have hp_:Kd.R (Kd.int .u8) 5 w32 w.heap.size (fun _=>True) (.slice (some ⟨go27,0,none⟩) x6_2.length co30) y130:=(by rw[hw,Ny130.out];exact HP31.1);clear HP31;have n0_:=yaa.mk (hp_);have n1_:=yaa.mk ((by rw[hw];exact yga (HB.out) GB27.out:Below w.heap.size w w32));clear HO_6;clear HB;have HO_6:=n0_;have HB:=n1_;clear n0_ n1_;clear hg hw hp_))
                  go_roundg k2
                  case measure=>have:=HK1.out;have:=HK2.out;omega
                  case rel=>exact⟨(y130),(wrap64 (x7_2+(ji17))),(ji29),(wrap64 (x10_2-(ji17))),(by first|rfl|(simp;done)|(simp only[← hji17] <;> (first|rfl|simp))|(simp [*];done)),(by first|rfl|(simp;done)|(simp only[← hji29] <;> (first|rfl|simp))|(simp [*];done)),(by first|rfl|(simp;done)|(simp only[← hji17] <;> (first|rfl|simp))|(simp [*];done)),H',⟨by have:=HK1.out;have:=HK2.out;omega⟩,⟨zR HO_6.out⟩,⟨zB⟩⟩
                 ·rw[if_neg c25] at H
                  exact absurd H (by simp)
                ·rw[if_neg c22] at H
                 exact absurd H (by simp)
               ·rw[if_neg c20] at H
                exact absurd H (by simp)
              ·rw[if_neg c19] at H
               exact absurd H (by simp)
             ·rw[if_neg c16] at H
              have c16b0:decide (0<x10_2)=false:=decide_eq_false c16
              clear c16
              have H':=yaa.mk H
              clear H
              go_wp2
              go_roundg k2
              case measure=>have:=HK1.out;have:=HK2.out;omega
              case rel=>exact⟨(x6_2),(x7_2),(wrap64 (x31_1+1)),zF,zF,H',⟨by have:=HK1.out;have:=HK2.out;omega⟩,⟨zR HO_6.out⟩,⟨zB⟩⟩
          ·rw[if_neg c15] at H
           exact absurd H (by simp)
         ·rw[if_neg c14] at H
          exact absurd H (by simp)
        ·rw[if_neg c13] at H
         have c13b0:=decide_eq_false c13
         clear c13
         simp only[Option.some.injEq,Prod.mk.injEq] at H
         obtain⟨rfl,rfl⟩:=H
         go_wp2
         go_ret2
         exact⟨_,zG,zR HO_6.out,zB⟩
     ·rw[if_neg c10] at H
      exact absurd H (by simp)
    ·rw[if_neg c9] at H
     exact absurd H (by simp)
def yb6.l0:Nat→List Int→Int→List (S53)→Int→Int→Option (List Int)
 | 0,_,_,_,_,_=>none
 | k+1,x3,x4,x12,x13,x14=>if x14<x13 then (if 0≤x14 then (if x14<(x12.length:Int) then (if (yar x12 x14).f0=true then (if x14<(x3.length:Int) then (yb6.l0 k (x3.set (x14:Int).toNat 1) 1 x12 x13 (wrap64 (x14+1))) else (none)) else (yb6.l0 k x3 x4 x12 x13 (wrap64 (x14+1)))) else (none)) else (none)) else (if x4=0 then (some (([0]:List Int))) else ((ya9.f k 1 x3).bind fun bt140=>((some (([1]:List Int):List Int)).bind fun y144=>(if y144.length+bt140.1.length<140737488355328 then (some (y144++bt140.1)) else (none)))))
def yb6.f (k:Nat) (l0:List (S53)):Option (List Int):=if 0≤(l0.length:Int) then (if ((l0.length:Int):Int).toNat≤35184372088832 then (yb6.l0 k (List.replicate ((l0.length:Int):Int).toNat 0) 0 l0 (l0.length:Int) 0) else (none)) else (none)
theorem yb6.calls (k:Nat) (A0:Option Addr) (c0:Nat) (l0:List (S53)) (r:List Int) (w:World) (hr0:Kd.C k53 w A0 l0.length l0) (hc0:l0.length≤c0) (h:yb6.f k l0=some r) :
  Calls Tryz.prog 53 #[.slice A0 l0.length c0] w fun e w'=>∃ v0_:Value,e=.returned (v0_)∧Kd.R (Kd.int .u8) 5 w' w.heap.size (fun _=>True) v0_ r∧Below w.heap.size w w':=by
 have hu53:=Tryz.underlying53
 have HR0:=yaa.mk hr0
 have HC0:=yaa.mk hc0
 clear hr0 hc0
 have HB:=yaa.mk (Below.refl w.heap.size w)
 have H:(if 0≤(l0.length:Int) then (if ((l0.length:Int):Int).toNat≤35184372088832 then (yb6.l0 k (List.replicate ((l0.length:Int):Int).toNat 0) 0 l0 (l0.length:Int) 0) else (none)) else (none))=some r:=h
 clear h
 by_cases c2:0≤(l0.length:Int)
 ·rw[if_pos c2] at H
  have c2b0:=eq_true c2
  have c2b1:=decide_eq_true c2
  clear c2
  by_cases c3:((l0.length:Int):Int).toNat≤35184372088832
  ·rw[if_pos c3] at H
   have c3b0:=eq_true c3
   have c3b1:=decide_eq_true c3
   clear c3
   obtain⟨y131,hy131⟩:∃ y_:List Int,y_=(List.replicate ((l0.length:Int):Int).toNat 0):=⟨_,rfl⟩
   replace H:(yb6.l0 k y131 0 l0 (l0.length:Int) 0)=some r:=by first|(rw[hy131];with_reducible exact H)|(have H2_:=(Option.bind_some _ _).symm.trans H;rw[hy131];with_reducible exact H2_)|(have H2_:=(Option.bind_some _ _).symm.trans H;with_reducible exact H2_)|with_reducible exact H|(rw[hy131];exact H)|exact H
   have Ny131:=yaa.mk hy131
   clear hy131
   have H':=yaa.mk H
   clear H
   go_enter Tryz.func53,Tryz.ntmps53
   go_wp2_with (first|((with_reducible refine yb1 (N:=11) rfl ?_);refine Kd.R_make (Kd.int .u64) _ 63 rfl (N:=11) rfl 66 _ _ rfl (l0.length:Int) rfl rfl Tryz.underlying66 (.int .u64 0) 8 yim rfl (by decide) (by omega) 0 (ok:=fun _=>True) (okp:=fun _=>True) rfl (fun _ hk=>hk) trivial (of_decide_eq_true zA) (Nat.le_trans (Nat.mul_le_mul_right _ (of_decide_eq_true zA:(l0.length:Int).toNat≤35184372088832)) (by omega)) (Below.refl _ _) (Nat.le_refl _) ?_;intro v132 w4 ho5 hb hg_ hnew_;clear hg_ hnew_;(first|rw[← Ny131.out] at ho5|(simp only[Int.reduceToNat] at ho5;rw[← Ny131.out] at ho5));have n0_:=yaa.mk (Kd.R_lower ho5 (yaf zB));have n1_:=yaa.mk (yai zB hb);clear HB;have HO133:=n0_;have HB:=n1_;clear n0_ n1_;clear hb ho5))
   go_loopg [4,14] k (fun kq v4 v14 w'=>∃ (x3_1:List Int) (x4_1:Int) (x14_1:Int),v4=.int .u8 x4_1∧v14=.int .i64 x14_1∧yaa (yb6.l0 kq x3_1 x4_1 l0 (l0.length:Int) x14_1=some r)∧yaa (kq≤k)∧yaa (Kd.R (Kd.int .u64) 63 w' w.heap.size (fun _=>True) v132 x3_1)∧yaa (Below w.heap.size w w'))
   case atStart=>exact⟨(y131),(0),(0),zF,zF,H',⟨Nat.le_refl _⟩,⟨zR HO133.out⟩,⟨zB⟩⟩
   case round =>
    clear H'
    try clear c2
    try clear c2b0
    try clear c2b1
    try clear p2
    try clear c3
    try clear c3b0
    try clear c3b1
    try clear c5
    obtain⟨x3_1,x4_1,x14_1,rfl,rfl,HA,HK1,HO_3,HB⟩:=hrel
    cases gk with
    | zero=>exact absurd HA.out (by simp [yb6.l0])
    | succ k1 =>
     have H:=HA.out
     clear HA
     simp only[yb6.l0] at H
     by_cases c6:x14_1<(l0.length:Int)
     ·rw[if_pos c6] at H
      have c6b0:=decide_eq_true c6
      clear c6
      by_cases c7:0≤x14_1
      ·rw[if_pos c7] at H
       have c7b0:=decide_eq_true c7
       clear c7
       by_cases c8:x14_1<(l0.length:Int)
       ·rw[if_pos c8] at H
        have c8b0:=decide_eq_true c8
        clear c8
        obtain⟨bq9,hbq9⟩:∃ b_:Bool,b_=((yar l0 x14_1).f0):=⟨_,rfl⟩
        replace H:(if bq9=true then (if x14_1<(x3_1.length:Int) then (yb6.l0 k1 (x3_1.set (x14_1:Int).toNat 1) 1 l0 (l0.length:Int) (wrap64 (x14_1+1))) else (none)) else (yb6.l0 k1 x3_1 x4_1 l0 (l0.length:Int) (wrap64 (x14_1+1))))=some r:=by rw[← hbq9] at H;exact H
        have Nbq9:=yaa.mk hbq9
        clear hbq9
        by_cases c10:bq9=true
        ·subst c10
         have H1:(if x14_1<(x3_1.length:Int) then (yb6.l0 k1 (x3_1.set (x14_1:Int).toNat 1) 1 l0 (l0.length:Int) (wrap64 (x14_1+1))) else (none))=some r:=by rw[if_pos rfl] at H;exact H
         clear H
         have H:=H1
         clear H1
         by_cases c11:x14_1<(x3_1.length:Int)
         ·rw[if_pos c11] at H
          have c11b0:=decide_eq_true c11
          clear c11
          obtain⟨y136,hy136⟩:∃ y_:List Int,y_=(x3_1.set (x14_1:Int).toNat 1):=⟨_,rfl⟩
          replace H:(yb6.l0 k1 y136 1 l0 (l0.length:Int) (wrap64 (x14_1+1)))=some r:=by first|(rw[hy136];with_reducible exact H)|(have H2_:=(Option.bind_some _ _).symm.trans H;rw[hy136];with_reducible exact H2_)|(have H2_:=(Option.bind_some _ _).symm.trans H;with_reducible exact H2_)|with_reducible exact H|(rw[hy136];exact H)|exact H
          have Ny136:=yaa.mk hy136
          clear hy136
          have H':=yaa.mk H
          clear H
          have p134:0≤(x14_1:Int):=of_decide_eq_true zA
          have q134:x14_1<(l0.length:Int):=of_decide_eq_true zA
          obtain⟨ad134,A134_2,c134_2,e134,hx134_0,hx134_1,hx134_2,hl134_2,hi134_2⟩:=yfv HR0.out x14_1 p134 q134
          (try rw[← Nbq9.out] at hx134_0)
          cases e134
          replace hx134_0:=(HB.out.cell (World.block_lt_of_cell? w _ hx134_0)).trans hx134_0
          replace hx134_1:=(HB.out.cell (World.block_lt_of_cell? w _ hx134_1)).trans hx134_1
          replace hx134_2:=(HB.out.cell (World.block_lt_of_cell? w _ hx134_2)).trans hx134_2
          have HR134_2:=yaa.mk hi134_2
          have HC134_2:=yaa.mk hl134_2
          clear hi134_2 hl134_2
          replace p134:=eq_true p134
          replace q134:=eq_true q134
          go_wp2_with (first|((with_reducible refine yb1 (N:=6) rfl ?_);refine yfr ?hg (N:=6) ?hd (cs:=#[.bool false,.int .i64 0,.slice none 0 0]) (t:=53) ?hr ?_;(case hd=>rfl);(case hg=>rfl);(case hr=>first|(go_simp;done)|(go_simp;rfl));intro gb135 hg w13 hbox hb;have n0_:=yaa.mk (Kd.R_below (zR HO_3.out) hb);have n1_:=yaa.mk (yai zB hb);have n2_:=yaa.mk (hbox);have n3_:=yaa.mk ((by rw[hg];exact(yaf zB):w.heap.size≤gb135));have n4_:=yaa.mk ((by rw[hg];exact(yaf zB):w.heap.size≤gb135));clear HO_3;clear HB;have HO_3:=n0_;have HB:=n1_;have BK135:=n2_;have GW135:=n3_;have GE135:=n4_;clear n0_ n1_ n2_ n3_ n4_;clear hb hbox hg;have hcz14_0:w13.cell? ⟨gb135,0,none⟩=some (.bool false):=(yau BK135.out 0).trans rfl;have hcz14_1:w13.cell? ⟨gb135,1,none⟩=some (.int .i64 0):=(yau BK135.out 1).trans rfl;have hcz14_2:w13.cell? ⟨gb135,2,none⟩=some (.slice none 0 0):=(yau BK135.out 2).trans rfl;have hfz14_0:=yas BK135.out 0;have hfz14_1:=yas BK135.out 1;have hfz14_2:=yas BK135.out 2)|((with_reducible refine yfu (t:=53) (p:=6) rfl ?_);refine yfc (t:=53) (p:=6) (v:=?vo_w15) (w1:=(((w13.setCell ⟨gb135,0,none⟩ (.bool true)).setCell ⟨gb135,1,none⟩ (.int .i64 ((yar l0 x14_1).f1))).setCell ⟨gb135,2,none⟩ (.slice A134_2 ((yar l0 x14_1).f2).length c134_2))) ?hg ?ho ?hn ?hr ?_;(case ho=>rfl);(case hg=>rfl);(case hn=>rfl);(case hr=>first|(go_simp;done)|(go_simp;rfl));intro w15 hw;have n0_:yaa (Kd.R (Kd.int .u64) 63 w15 w.heap.size (fun _=>True) v132 x3_1):=⟨(by rw[hw];exact(by (with_reducible repeat (first|apply Kd.R_alloc|apply Kd.R_drewN|apply Kd.R_drew));exact Kd.R_mono (Kd.R_far (p:=⟨gb135,2,none⟩) (Kd.R_far (p:=⟨gb135,1,none⟩) (Kd.R_far (p:=⟨gb135,0,none⟩) (Kd.R_types HO_3.out BK135.out (by decide)) (fun _ hk=>hk.2) (.bool true)) (fun _ hk=>hk.2) (.int .i64 ((yar l0 x14_1).f1))) (fun _ hk=>hk.2) (.slice A134_2 ((yar l0 x14_1).f2).length c134_2)) (fun _ hk=>trivial)))⟩;have n1_:yaa (w15.heap[gb135]?=some (.cells #[.bool true,.int .i64 ((yar l0 x14_1).f1),.slice A134_2 ((yar l0 x14_1).f2).length c134_2] 53 (0,0))):=⟨(by rw[hw];exact(by (with_reducible repeat (first|refine ych ?_ _|refine ycq ?_|refine ycg ?_ _));refine yf4 (cs:=#[.bool true,.int .i64 ((yar l0 x14_1).f1),.slice none 0 0]) ?_ 2 _ rfl;(with_reducible repeat (first|refine ych ?_ _|refine ycq ?_|refine ycg ?_ _));refine yf4 (cs:=#[.bool true,.int .i64 0,.slice none 0 0]) ?_ 1 _ rfl;(with_reducible repeat (first|refine ych ?_ _|refine ycq ?_|refine ycg ?_ _));refine yf4 (cs:=#[.bool false,.int .i64 0,.slice none 0 0]) ?_ 0 _ rfl;(with_reducible repeat (first|refine ych ?_ _|refine ycq ?_|refine ycg ?_ _));exact BK135.out))⟩;have n2_:yaa (Below w.heap.size w w15):=⟨(by rw[hw];exact(have GE_:=GE135;zT))⟩;clear hw;clear HO_3;clear BK135;clear HB;have HO_3:=n0_;have BK135:=n1_;have HB:=n2_;clear n0_ n1_ n2_;have hcz16_0:w15.cell? ⟨gb135,0,none⟩=some (.bool true):=(yau BK135.out 0).trans rfl;have hcz16_1:w15.cell? ⟨gb135,1,none⟩=some (.int .i64 ((yar l0 x14_1).f1)):=(yau BK135.out 1).trans rfl;have hcz16_2:w15.cell? ⟨gb135,2,none⟩=some (.slice A134_2 ((yar l0 x14_1).f2).length c134_2):=(yau BK135.out 2).trans rfl;have hfz16_0:=yas BK135.out 0;have hfz16_1:=yas BK135.out 1;have hfz16_2:=yas BK135.out 2;have p12:0≤(x14_1:Int):=of_decide_eq_true zA;have q12:(x14_1:Int)<((x3_1.length:Int):Int):=of_decide_eq_true zA;obtain⟨go12,co12,eo12,gb12,gl12,cl12,HG12⟩:=Kd.R_form HO_3.out (by omega);(first|cases eo12|(injection eo12 with ea_ en_ ec_;(first|subst ea_|(injection ea_ with ea_;subst ea_));subst ec_;clear en_));have GB12:=yaa.mk gb12;have GG12:=yaa.mk HG12;clear gb12 gl12 HG12;obtain⟨hx12_0,hf12_0⟩:=Kd.R_celln 0 HO_3.out (x14_1:Int) p12 q12;replace p12:=eq_true p12;replace q12:=eq_true q12;obtain⟨hy17_,hz17_⟩:=Kd.R_celln 0 HO_3.out (x14_1:Int) (of_decide_eq_true zA) (of_decide_eq_true zA);have HP17:=Kd.R_putg HO_3.out (x14_1:Int) 1)|((with_reducible refine yfu (t:=63) (p:=23) rfl ?_);refine yfc (t:=63) (p:=23) (v:=?vo_w18) (w1:=(w15.setCell ⟨go12,(x14_1:Int).toNat,none⟩ (.int .u64 1))) ?hg ?ho ?hn ?hr ?_;(case ho=>rfl);(case hg=>rfl);(case hn=>rfl);(case hr=>first|(go_simp;done)|(go_simp;rfl));intro w18 hw;have hg:w15.grownBy w18 (some go12):=(by rw[hw];exact HP17.2);have hp_:Kd.R (Kd.int .u64) 63 w18 w.heap.size (fun _=>True) (.slice (some ⟨go12,0,none⟩) x3_1.length co12) y136:=(by rw[hw,Ny136.out];exact HP17.1);clear HP17;have n0_:=yaa.mk (hp_);have n1_:=yaa.mk (yhe (g:=gb135) (o:=.cells #[.bool true,.int .i64 ((yar l0 x14_1).f1),.slice A134_2 ((yar l0 x14_1).f2).length c134_2] 53 (0,0)) (by (with_reducible repeat (first|refine ych ?_ _|refine ycq ?_|refine ycg ?_ _));exact BK135.out) hg (Kd.R_ne HO_3.out BK135.out (by decide)));have n2_:=yaa.mk ((by rw[hw];exact yga (HB.out) GB12.out:Below w.heap.size w w18));clear HO_3;clear BK135;clear HB;have HO_3:=n0_;have BK135:=n1_;have HB:=n2_;clear n0_ n1_ n2_;clear hg hw hp_))
          go_roundg k1
          case measure=>have:=HK1.out;omega
          case rel=>exact⟨(y136),(1),(wrap64 (x14_1+1)),zF,zF,H',⟨by have:=HK1.out;omega⟩,⟨zR HO_3.out⟩,⟨(have GE_:=GE135;zT)⟩⟩
         ·rw[if_neg c11] at H
          exact absurd H (by simp)
        ·replace c10:=Bool.eq_false_iff.mpr c10
         subst c10
         have H1:(yb6.l0 k1 x3_1 x4_1 l0 (l0.length:Int) (wrap64 (x14_1+1)))=some r:=by rw[if_neg (show ¬ (false=true) by decide)] at H;exact H
         clear H
         have H:=H1
         clear H1
         have H':=yaa.mk H
         clear H
         have p134:0≤(x14_1:Int):=of_decide_eq_true zA
         have q134:x14_1<(l0.length:Int):=of_decide_eq_true zA
         obtain⟨ad134,A134_2,c134_2,e134,hx134_0,hx134_1,hx134_2,hl134_2,hi134_2⟩:=yfv HR0.out x14_1 p134 q134
         (try rw[← Nbq9.out] at hx134_0)
         cases e134
         replace hx134_0:=(HB.out.cell (World.block_lt_of_cell? w _ hx134_0)).trans hx134_0
         replace hx134_1:=(HB.out.cell (World.block_lt_of_cell? w _ hx134_1)).trans hx134_1
         replace hx134_2:=(HB.out.cell (World.block_lt_of_cell? w _ hx134_2)).trans hx134_2
         have HR134_2:=yaa.mk hi134_2
         have HC134_2:=yaa.mk hl134_2
         clear hi134_2 hl134_2
         replace p134:=eq_true p134
         replace q134:=eq_true q134
         go_wp2_with (first|((with_reducible refine yb1 (N:=6) rfl ?_);refine yfr ?hg (N:=6) ?hd (cs:=#[.bool false,.int .i64 0,.slice none 0 0]) (t:=53) ?hr ?_;(case hd=>rfl);(case hg=>rfl);(case hr=>first|(go_simp;done)|(go_simp;rfl));intro gb135 hg w19 hbox hb;have n0_:=yaa.mk (Kd.R_below (zR HO_3.out) hb);have n1_:=yaa.mk (yai zB hb);have n2_:=yaa.mk (hbox);have n3_:=yaa.mk ((by rw[hg];exact(yaf zB):w.heap.size≤gb135));have n4_:=yaa.mk ((by rw[hg];exact(yaf zB):w.heap.size≤gb135));clear HO_3;clear HB;have HO_3:=n0_;have HB:=n1_;have BK135:=n2_;have GW135:=n3_;have GE135:=n4_;clear n0_ n1_ n2_ n3_ n4_;clear hb hbox hg;have hcz20_0:w19.cell? ⟨gb135,0,none⟩=some (.bool false):=(yau BK135.out 0).trans rfl;have hcz20_1:w19.cell? ⟨gb135,1,none⟩=some (.int .i64 0):=(yau BK135.out 1).trans rfl;have hcz20_2:w19.cell? ⟨gb135,2,none⟩=some (.slice none 0 0):=(yau BK135.out 2).trans rfl;have hfz20_0:=yas BK135.out 0;have hfz20_1:=yas BK135.out 1;have hfz20_2:=yas BK135.out 2))
         go_roundg k1
         case measure=>have:=HK1.out;omega
         case rel=>exact⟨(x3_1),(x4_1),(wrap64 (x14_1+1)),zF,zF,H',⟨by have:=HK1.out;omega⟩,⟨by (with_reducible repeat (first|apply Kd.R_alloc|apply Kd.R_drewN|apply Kd.R_drew));exact Kd.R_mono (Kd.R_far (p:=⟨gb135,2,none⟩) (Kd.R_far (p:=⟨gb135,1,none⟩) (Kd.R_far (p:=⟨gb135,0,none⟩) (Kd.R_types HO_3.out BK135.out (by decide)) (fun _ hk=>hk.2) (.bool false)) (fun _ hk=>hk.2) (.int .i64 ((yar l0 x14_1).f1))) (fun _ hk=>hk.2) (.slice A134_2 ((yar l0 x14_1).f2).length c134_2)) (fun _ hk=>trivial)⟩,⟨(have GE_:=GE135;zT)⟩⟩
       ·rw[if_neg c8] at H
        exact absurd H (by simp)
      ·rw[if_neg c7] at H
       exact absurd H (by simp)
     ·rw[if_neg c6] at H
      have c6b0:=decide_eq_false c6
      clear c6
      by_cases c21:x4_1=0
      ·rw[if_pos c21] at H
       have c21b0:(x4_1 == 0)=true:=beq_iff_eq.mpr c21
       have c21b1:(x4_1 != 0)=false:=bne_eq_false_iff_eq.mpr c21
       clear c21
       obtain⟨y137,hy137⟩:∃ y_:List Int,y_=(([0]:List Int)):=⟨_,rfl⟩
       replace H:(some y137)=some r:=by first|(rw[hy137];with_reducible exact H)|(have H2_:=(Option.bind_some _ _).symm.trans H;rw[hy137];with_reducible exact H2_)|(have H2_:=(Option.bind_some _ _).symm.trans H;with_reducible exact H2_)|with_reducible exact H|(rw[hy137];exact H)|exact H
       have Ny137:=yaa.mk hy137
       clear hy137
       obtain rfl:=Option.some.inj H
       go_wp2_with (first|((with_reducible refine yb1 (N:=27) rfl ?_);refine Kd.R_lit (Kd.int .u8) _ 5 ?hg (N:=27) ?hd (xs:=([0]:List Int)) (inner:=[.int .u8 0]) (ok:=fun _=>True) (okp:=fun _=>True) ?hr ?hp (fun _ hk=>hk) trivial (Below.refl _ _) (Nat.le_refl _) (by simp) ?_;(case hd=>rfl);(case hg=>rfl);(case hr=>first|(go_simp;done)|(go_simp;rfl));(case hp=>exact(Reps.one (show Kd.M (Kd.int .u8) _ _ _ 0 [.int .u8 0] from rfl) (Reps.none _ _)));intro v138 w22 ho23 hb hg_ hnew_;clear hg_ hnew_;(first|rw[← Ny137.out] at ho23|(simp only[Int.reduceToNat] at ho23;rw[← Ny137.out] at ho23));have n0_:=yaa.mk (Kd.R_below (zR HO_3.out) hb);have n1_:=yaa.mk (Kd.R_lower ho23 (yaf zB));have n2_:=yaa.mk (yai zB hb);clear HO_3;clear HB;have HO_3:=n0_;have HO139:=n1_;have HB:=n2_;clear n0_ n1_ n2_;clear hb ho23))
       go_ret
       exact⟨_,zG,zR HO139.out,zB⟩
      ·rw[if_neg c21] at H
       have c21b0:(x4_1 == 0)=false:=beq_eq_false_iff_ne.mpr c21
       have c21b1:(x4_1 != 0)=true:=bne_iff_ne.mpr c21
       replace H:=Option.bind_eq_some_iff.mp H
       obtain⟨⟨t140,t141⟩,A240,H⟩:=H
       try dsimp only at H
       have A24:=yaa.mk A240
       clear A240
       obtain⟨y144,hy144⟩:∃ y_:List Int,y_=(([1]:List Int)):=⟨_,rfl⟩
       replace H:(if y144.length+t140.length<140737488355328 then (some (y144++t140)) else (none))=some r:=by first|(rw[hy144];with_reducible exact H)|(have H2_:=(Option.bind_some _ _).symm.trans H;rw[hy144];with_reducible exact H2_)|(have H2_:=(Option.bind_some _ _).symm.trans H;with_reducible exact H2_)|with_reducible exact H|(rw[hy144];exact H)|exact H
       have Ny144:=yaa.mk hy144
       clear hy144
       by_cases c25:y144.length+t140.length<140737488355328
       ·rw[if_pos c25] at H
        have LMc25:=yaa.mk c25
        clear c25
        obtain⟨y147,hy147⟩:∃ y_:List Int,y_=(y144++t140):=⟨_,rfl⟩
        replace H:(some y147)=some r:=by first|(rw[hy147];with_reducible exact H)|(have H2_:=(Option.bind_some _ _).symm.trans H;rw[hy147];with_reducible exact H2_)|(have H2_:=(Option.bind_some _ _).symm.trans H;with_reducible exact H2_)|with_reducible exact H|(rw[hy147];exact H)|exact H
        have Ny147:=yaa.mk hy147
        clear hy147
        obtain rfl:=Option.some.inj H
        obtain⟨Ao26,co26,eo26⟩:=Kd.R_slice HO_3.out
        subst eo26
        go_wp2_with (first|((with_reducible refine yad (f:=83) rfl ?_);refine yak (some 30) rfl rfl Tryz.func83 (by kernel_rfl) rfl #[.int .i64 1,.slice Ao26 x3_1.length co26] rfl zE ?_;(with_reducible refine(ya9.calls k1 1 _ _ x3_1 t140 t141 _ ?side1 ?side2 A24.out).mono ?_);(case side1=>exact zC (Kd.R_reads' HO_3.out).2.2);(case side2=>exact(Kd.R_reads' HO_3.out).2.1);rintro e w27 ⟨v142,rfl,ho0,hb⟩;refine⟨_,rfl,?_⟩;have n0_:=yaa.mk (Kd.R_below (zR HO_3.out) hb);have n1_:=yaa.mk (Kd.R_lower ho0 (yaf zB));have n2_:=yaa.mk (yai zB hb);clear HO_3;clear HB;have HO_3:=n0_;have HO143:=n1_;have HB:=n2_;clear n0_ n1_ n2_;(try clear hb);(try clear hb2);(try clear hk);(try clear hi);(try clear ho0))|((with_reducible refine yb1 (N:=33) rfl ?_);refine Kd.R_lit (Kd.int .u8) _ 5 ?hg (N:=33) ?hd (xs:=([1]:List Int)) (inner:=[.int .u8 1]) (ok:=fun _=>True) (okp:=fun _=>True) ?hr ?hp (fun _ hk=>hk) trivial (Below.refl _ _) (Nat.le_refl _) (by simp) ?_;(case hd=>rfl);(case hg=>rfl);(case hr=>first|(go_simp;done)|(go_simp;rfl));(case hp=>exact(Reps.one (show Kd.M (Kd.int .u8) _ _ _ 1 [.int .u8 1] from rfl) (Reps.none _ _)));intro v145 w28 ho29 hb hg_ hnew_;clear hg_ hnew_;(first|rw[← Ny144.out] at ho29|(simp only[Int.reduceToNat] at ho29;rw[← Ny144.out] at ho29));have n0_:=yaa.mk (Kd.R_below (zR HO_3.out) hb);have n1_:=yaa.mk (Kd.R_elder' (zR HO143.out) (Kd.R_base ho29) hb);have n2_:=yaa.mk (Kd.R_lower (Kd.R_new' ho29 (Kd.R_lt (zR HO143.out))) (yaf zB));have n3_:=yaa.mk (yai zB hb);clear HO_3;clear HO143;clear HB;have HO_3:=n0_;have HO143:=n1_;have HO146:=n2_;have HB:=n3_;clear n0_ n1_ n2_ n3_;clear hb ho29;obtain⟨Ao31,co31,eo31⟩:=Kd.R_slice HO143.out;subst eo31)|((with_reducible refine ybm (b:=.append) (xs:=#[.tmp 33,.tmp 34]) rfl ?_);at_builtin;refine Kd.R_append_rows (Kd.int .u8) (w0:=w) w.heap.size rfl (.tmp 33) (.tmp 34) 25 5 (.int .u8 0) 1 rfl Tryz.underlying25 ycj rfl (by decide) (by omega) v145 y144 t140 _ _ _ (fun k_=>some k_≠(.slice Ao31 t140.length co31:Value).ownBlock) (fun _=>False) rfl rfl ?aO ?aR (fun _ _ h=>h) (fun _ h=>h.elim) ?aF ?aB ?aS ?aL ?_;(case aR=>exact zC (Kd.R_reads' HO143.out).2.2);(case aB=>exact zB);(case aF=>exact(fun k_ hk=>Kd.fresh' (Kd.R_lt (zR HO143.out)) k_ hk));(case aO=>exact(by (with_reducible repeat (first|apply Kd.R_alloc|apply Kd.R_drewN|apply Kd.R_drew));exact Kd.R_mono HO146.out (fun _ hk=>hk.2)));(case aS=>exact(yaf zB));(case aL=>have:=LMc25.out;omega);intro v148 w30 ho hb hg hat;rw[← Ny147.out] at ho;have n0_:=yaa.mk (Kd.R_over' (zR HO_3.out) (Kd.R_typed (zR HO146.out)) (by decide) hg);have n1_:=yaa.mk (Kd.R_after (ok:=(fun _=>True)) (zR HO143.out) hg hat);have n2_:=yaa.mk (hb);have n3_:=yaa.mk (ho);clear HO_3;clear HO143;clear HB;clear HO146;have HO_3:=n0_;have HO143:=n1_;have HB:=n2_;have HO149:=n3_;clear n0_ n1_ n2_ n3_;clear ho hb hg hat))
        go_ret
        exact⟨_,zG,by (with_reducible repeat (first|apply Kd.R_alloc|apply Kd.R_drewN|apply Kd.R_drew));exact Kd.R_mono HO149.out (fun _ hk=>trivial),zB⟩
       ·rw[if_neg c25] at H
        exact absurd H (by simp)
  ·rw[if_neg c3] at H
   exact absurd H (by simp)
 ·rw[if_neg c2] at H
  exact absurd H (by simp)
end Go.Proofs.YteeikgjjgfdjgaaGreat.PK
end
section
namespace Go.Proofs.YteeikgjjgfdjgaaGreat.PK
open Go.RowKit YteeikgjjgfdjgaaGreatW.PrintWords YteeikgjjgfdjgaaGreatW.PrintLast YteeikgjjgfdjgaaGreatW.PrintMore
attribute [local go_sem] yce ycf ycu ycv yb8 yb7 ycm yco
set_option linter.unusedVariables false
set_option linter.unusedSimpArgs false
def ygz.f (k:Nat) (a0:Int):Option (Int):=(ybb.f k (([IntKind.u64.wrap (mx (wrap64 (a0-1)) 0)]:List Int))).bind fun t197=>(some t197)
theorem ygz.calls (k:Nat) (a0:Int) (r:Int) (w:World) (h:ygz.f k a0=some r) :
  Calls Tryz.prog 110 #[.int .i64 a0] w fun e w'=>e=.returned (.int .i64 r)∧Below w.heap.size w w':=by
 have HB:=yaa.mk (Below.refl w.heap.size w)
 have H:((ybb.f k (([IntKind.u64.wrap (mx (wrap64 (a0-1)) 0)]:List Int))).bind fun t197=>(some t197))=some r:=h
 clear h
 obtain⟨ji2,hji2⟩:∃ j_:Int,(mx (wrap64 (a0-1)) 0)=j_:=⟨_,rfl⟩
 replace H:((ybb.f k (([IntKind.u64.wrap (ji2)]:List Int))).bind fun t197=>(some t197))=some r:=by first|(rw[hji2] at H;exact H)|(simp only[hji2] at H ⊢;exact H)
 (try (have hji2l:0≤ji2:=by (rw[← hji2];unfold mx;(repeat' split) <;> omega)))
 (try (have hji2m:0≤ji2:=by omega))
 have hji2_:(if (wrap64 (a0-1))<0 then 0 else (wrap64 (a0-1)))=ji2:=hji2
 obtain⟨y194,hy194⟩:∃ y_:List Int,y_=(([IntKind.u64.wrap (ji2)]:List Int)):=⟨_,rfl⟩
 replace H:((ybb.f k y194).bind fun t197=>(some t197))=some r:=by first|(rw[hy194];with_reducible exact H)|(have H2_:=(Option.bind_some _ _).symm.trans H;rw[hy194];with_reducible exact H2_)|(have H2_:=(Option.bind_some _ _).symm.trans H;with_reducible exact H2_)|with_reducible exact H|(rw[hy194];exact H)|exact H
 have Ny194:=yaa.mk hy194
 clear hy194
 replace H:=Option.bind_eq_some_iff.mp H
 obtain⟨t197,A30,H⟩:=H
 try dsimp only at H
 have A3:=yaa.mk A30
 clear A30
 obtain rfl:=Option.some.inj H
 go_enter Tryz.func110,Tryz.ntmps110
 go_wp2_with (first|((with_reducible refine yb1 (N:=7) rfl ?_);refine Kd.R_lit (Kd.int .u64) _ 63 ?hg (N:=7) ?hd (xs:=([IntKind.u64.wrap (ji2)]:List Int)) (inner:=[.int .u64 (IntKind.u64.wrap (ji2))]) (ok:=fun _=>True) (okp:=fun _=>True) ?hr ?hp (fun _ hk=>hk) trivial (Below.refl _ _) (Nat.le_refl _) (by simp) ?_;(case hd=>rfl);(case hg=>rfl);(case hr=>first|(go_simp;done)|(go_simp;rfl));(case hp=>exact(Reps.one (show Kd.M (Kd.int .u64) _ _ _ (IntKind.u64.wrap (ji2)) [.int .u64 (IntKind.u64.wrap (ji2))] from rfl) (Reps.none _ _)));intro v195 w4 ho5 hb hg_ hnew_;clear hg_ hnew_;(first|rw[← Ny194.out] at ho5|(simp only[Int.reduceToNat] at ho5;rw[← Ny194.out] at ho5));have n0_:=yaa.mk (Kd.R_lower ho5 (yaf zB));have n1_:=yaa.mk (yai zB hb);clear HB;have HO196:=n0_;have HB:=n1_;clear n0_ n1_;clear hb ho5;obtain⟨Ao6,co6,eo6⟩:=Kd.R_slice HO196.out;subst eo6)|((with_reducible refine yad (f:=64) rfl ?_);refine yak (some 8) rfl rfl Tryz.func64 (by kernel_rfl) rfl #[.slice Ao6 y194.length co6] rfl zE ?_;(with_reducible refine(ybb.calls k _ _ y194 t197 _ ?side1 ?side2 A3.out).mono ?_);(case side1=>exact zC (Kd.R_reads' HO196.out).2.2);(case side2=>exact(Kd.R_reads' HO196.out).2.1);rintro e w' ⟨rfl,⟨nd,rfl⟩⟩;refine⟨_,rfl,?_⟩))
 go_ret
 exact⟨by first|rfl|(simp [yf6,ygb] <;> rfl)|(simp only[← hji2];first|rfl|(simp [yf6,ygb] <;> rfl))|(simp [*,yf6,ygb] <;> rfl),zB⟩
def yb5.l0:Nat→List Int→List Int→Int→Int→Option (List Int)
 | 0,_,_,_,_=>none
 | k+1,x3,x10,x11,x12=>if x12<x11 then (if 0≤x12 then (if x12<(x10.length:Int) then ((ya0.f k (rd x10 x12)).bind fun t329=>(if x3.length+t329.length<140737488355328 then (yb5.l0 k (x3++t329) x10 x11 (wrap64 (x12+1))) else (none))) else (none)) else (none)) else (some x3)
def yb5.f (k:Nat) (l0:List Int):Option (List Int):=(ya0.f k (IntKind.u64.wrap ((l0.length:Int)))).bind fun t325=>(yb5.l0 k t325 l0 (l0.length:Int) 0)
theorem yb5.calls (k:Nat) (A0:Option Addr) (c0:Nat) (l0:List Int) (r:List Int) (w:World) (hr0:Kd.C (Kd.int .u64) w A0 l0.length l0) (hc0:l0.length≤c0) (h:yb5.f k l0=some r) :
  Calls Tryz.prog 129 #[.slice A0 l0.length c0] w fun e w'=>∃ v0_:Value,e=.returned (v0_)∧Kd.R (Kd.int .u8) 5 w' w.heap.size (fun _=>True) v0_ r∧Below w.heap.size w w':=by
 have HR0:=yaa.mk hr0
 have HC0:=yaa.mk hc0
 clear hr0 hc0
 have HB:=yaa.mk (Below.refl w.heap.size w)
 have H:((ya0.f k (IntKind.u64.wrap ((l0.length:Int)))).bind fun t325=>(yb5.l0 k t325 l0 (l0.length:Int) 0))=some r:=h
 clear h
 replace H:=Option.bind_eq_some_iff.mp H
 obtain⟨t325,A20,H⟩:=H
 try dsimp only at H
 have A2:=yaa.mk A20
 clear A20
 have H':=yaa.mk H
 clear H
 go_enter Tryz.func129,Tryz.ntmps129
 go_wp2_with (first|((with_reducible refine yad (f:=52) rfl ?_);refine yak (some 9) rfl rfl Tryz.func52 (by kernel_rfl) rfl #[.int .u64 (IntKind.u64.wrap ((l0.length:Int)))] rfl zE ?_;(with_reducible refine(ya0.calls k (IntKind.u64.wrap ((l0.length:Int))) t325 _ A2.out).mono ?_);rintro e w3 ⟨v326,rfl,ho0,hb⟩;refine⟨_,rfl,?_⟩;have n0_:=yaa.mk (Kd.R_lower ho0 (yaf zB));have n1_:=yaa.mk (yai zB hb);clear HB;have HO327:=n0_;have HB:=n1_;clear n0_ n1_;(try clear hb);(try clear hb2);(try clear hk);(try clear hi);(try clear ho0)))
 go_loopg [3,12] k (fun kq v3 v12 w'=>∃ (x3_1:List Int) (x12_1:Int),v12=.int .i64 x12_1∧yaa (yb5.l0 kq x3_1 l0 (l0.length:Int) x12_1=some r)∧yaa (kq≤k)∧yaa (Kd.R (Kd.int .u8) 5 w' w.heap.size (fun _=>True) v3 x3_1)∧yaa (Below w.heap.size w w'))
 case atStart=>exact⟨(t325),(0),zF,H',⟨Nat.le_refl _⟩,⟨zR HO327.out⟩,⟨zB⟩⟩
 case round =>
  clear H'
  try clear c1
  try clear p2
  obtain⟨x3_1,x12_1,rfl,HA,HK1,HO_3,HB⟩:=hrel
  cases gk with
  | zero=>exact absurd HA.out (by simp [yb5.l0])
  | succ k1 =>
   have H:=HA.out
   clear HA
   simp only[yb5.l0] at H
   by_cases c4:x12_1<(l0.length:Int)
   ·rw[if_pos c4] at H
    have c4b0:=decide_eq_true c4
    clear c4
    by_cases c5:0≤x12_1
    ·rw[if_pos c5] at H
     have c5b0:=decide_eq_true c5
     clear c5
     by_cases c6:x12_1<(l0.length:Int)
     ·rw[if_pos c6] at H
      have c6b0:=decide_eq_true c6
      clear c6
      replace H:=Option.bind_eq_some_iff.mp H
      obtain⟨t329,A70,H⟩:=H
      try dsimp only at H
      have A7:=yaa.mk A70
      clear A70
      by_cases c8:x3_1.length+t329.length<140737488355328
      ·rw[if_pos c8] at H
       have LMc8:=yaa.mk c8
       clear c8
       obtain⟨y332,hy332⟩:∃ y_:List Int,y_=(x3_1++t329):=⟨_,rfl⟩
       replace H:(yb5.l0 k1 y332 l0 (l0.length:Int) (wrap64 (x12_1+1)))=some r:=by first|(rw[hy332];with_reducible exact H)|(have H2_:=(Option.bind_some _ _).symm.trans H;rw[hy332];with_reducible exact H2_)|(have H2_:=(Option.bind_some _ _).symm.trans H;with_reducible exact H2_)|with_reducible exact H|(rw[hy332];exact H)|exact H
       have Ny332:=yaa.mk hy332
       clear hy332
       have H':=yaa.mk H
       clear H
       have p328:0≤(x12_1:Int):=of_decide_eq_true zA
       have q328:x12_1<(l0.length:Int):=of_decide_eq_true zA
       obtain⟨ad328,e328,hx328_0⟩:=Kd.at_int HR0.out x12_1 p328 q328
       cases e328
       replace hx328_0:=(HB.out.cell (World.block_lt_of_cell? w _ hx328_0)).trans hx328_0
       replace p328:=eq_true p328
       replace q328:=eq_true q328
       go_wp2_with (first|((with_reducible refine yad (f:=52) rfl ?_);refine yak (some 18) rfl rfl Tryz.func52 (by kernel_rfl) rfl #[.int .u64 (rd l0 x12_1)] rfl zE ?_;(with_reducible refine(ya0.calls k1 (rd l0 x12_1) t329 _ A7.out).mono ?_);rintro e w9 ⟨v330,rfl,ho0,hb⟩;refine⟨_,rfl,?_⟩;have n0_:=yaa.mk (Kd.R_elder' (zR HO_3.out) (Kd.R_base ho0) hb);have n1_:=yaa.mk (Kd.R_lower (Kd.R_new' ho0 (Kd.R_lt (zR HO_3.out))) (yaf zB));have n2_:=yaa.mk (yai zB hb);clear HO_3;clear HB;have HO_3:=n0_;have HO331:=n1_;have HB:=n2_;clear n0_ n1_ n2_;(try clear hb);(try clear hb2);(try clear hk);(try clear hi);(try clear ho0);obtain⟨Ao11,co11,eo11⟩:=Kd.R_slice HO331.out;subst eo11)|((with_reducible refine ybm (b:=.append) (xs:=#[.tmp 16,.tmp 18]) rfl ?_);at_builtin;refine Kd.R_append_rows (Kd.int .u8) (w0:=w) w.heap.size rfl (.tmp 16) (.tmp 18) 25 5 (.int .u8 0) 1 rfl Tryz.underlying25 ycj rfl (by decide) (by omega) u3 x3_1 t329 _ _ _ (fun k_=>some k_≠(.slice Ao11 t329.length co11:Value).ownBlock) (fun _=>False) rfl rfl ?aO ?aR (fun _ _ h=>h) (fun _ h=>h.elim) ?aF ?aB ?aS ?aL ?_;(case aR=>exact zC (Kd.R_reads' HO331.out).2.2);(case aB=>exact zB);(case aF=>exact(fun k_ hk=>Kd.fresh' (Kd.R_lt (zR HO331.out)) k_ hk));(case aO=>exact(by (with_reducible repeat (first|apply Kd.R_alloc|apply Kd.R_drewN|apply Kd.R_drew));exact Kd.R_mono HO_3.out (fun _ hk=>hk.2)));(case aS=>exact(yaf zB));(case aL=>have:=LMc8.out;omega);intro v333 w10 ho hb hg hat;rw[← Ny332.out] at ho;have n0_:=yaa.mk (Kd.R_after (ok:=(fun _=>True)) (zR HO331.out) hg hat);have n1_:=yaa.mk (hb);have n2_:=yaa.mk (ho);clear HO331;clear HB;clear HO_3;have HO331:=n0_;have HB:=n1_;have HO334:=n2_;clear n0_ n1_ n2_;clear ho hb hg hat))
       go_roundg k1
       case measure=>have:=HK1.out;omega
       case rel=>exact⟨(y332),(wrap64 (x12_1+1)),zF,H',⟨by have:=HK1.out;omega⟩,⟨by (with_reducible repeat (first|apply Kd.R_alloc|apply Kd.R_drewN|apply Kd.R_drew));exact Kd.R_mono HO334.out (fun _ hk=>trivial)⟩,⟨zB⟩⟩
      ·rw[if_neg c8] at H
       exact absurd H (by simp)
     ·rw[if_neg c6] at H
      exact absurd H (by simp)
    ·rw[if_neg c5] at H
     exact absurd H (by simp)
   ·rw[if_neg c4] at H
    have c4b0:=decide_eq_false c4
    clear c4
    obtain rfl:=Option.some.inj H
    go_wp2
    go_ret
    exact⟨_,zG,zR HO_3.out,zB⟩
end Go.Proofs.YteeikgjjgfdjgaaGreat.PK
end
section
namespace Go.Proofs.YteeikgjjgfdjgaaGreat.PK
open Go.RowKit YteeikgjjgfdjgaaGreatW.PrintWords YteeikgjjgfdjgaaGreatW.PrintLast YteeikgjjgfdjgaaGreatW.PrintMore
attribute [local go_sem] yce ycf ycu ycv yb8 yb7 ycm yco
set_option linter.unusedVariables false
set_option linter.unusedSimpArgs false
mutual
def yal.l0:Nat→List Int→Int→Int→Option (Int)
 | 0,_,_,_=>none
 | k+1,x0,x3,x4=>if x4<(x0.length:Int) then (if 0≤x4 then (yal.l1 k x0 x3 x4 0 (rd x0 x4)) else (none)) else (some x3)
def yal.l1:Nat→List Int→Int→Int→Int→Int→Option (Int)
 | 0,_,_,_,_,_=>none
 | k+1,x0,x3,x4,x5,x6=>if x6 > 0 then (yal.l1 k x0 x3 x4 (wrap64 (x5+1)) (IntKind.u64.wrap (Int.tdiv x6 2))) else (if x5 > x3 then (yal.l0 k x0 x5 (wrap64 (x4+1))) else (yal.l0 k x0 x3 (wrap64 (x4+1))))
end
def yal.f (k:Nat) (l0:List Int):Option (Int):=yal.l0 k l0 0 0
theorem yal.calls (k:Nat) (A0:Option Addr) (c0:Nat) (l0:List Int) (r:Int) (w:World) (hr0:Kd.C (Kd.int .u64) w A0 l0.length l0) (hc0:l0.length≤c0) (h:yal.f k l0=some r) :
  Calls Tryz.prog 74 #[.slice A0 l0.length c0] w fun e w'=>e=.returned (.int .i64 r)∧yap w w':=by
 have HR0:=yaa.mk hr0
 have HC0:=yaa.mk hc0
 clear hr0 hc0
 have H:(yal.l0 k l0 0 0)=some r:=h
 clear h
 have H':=yaa.mk H
 clear H
 go_enter Tryz.func74,Tryz.ntmps74
 go_wp2
 go_loopg [3,4] k (fun kq v3 v4 w'=>∃ (x3_1:Int) (x4_1:Int),v3=.int .i64 x3_1∧v4=.int .i64 x4_1∧yaa (yal.l0 kq l0 x3_1 x4_1=some r)∧yaa (kq≤k)∧yap w w')
 case atStart=>exact⟨(0),(0),zF,zF,H',⟨Nat.le_refl _⟩,zD⟩
 case round =>
  clear H'
  obtain⟨x3_1,x4_1,rfl,rfl,HA,HK1,⟨m1,rfl⟩⟩:=hrel
  cases gk with
  | zero=>exact absurd HA.out (by simp [yal.l0])
  | succ k1 =>
   have H:=HA.out
   clear HA
   simp only[yal.l0] at H
   by_cases c2:x4_1<(l0.length:Int)
   ·rw[if_pos c2] at H
    have c2b0:=decide_eq_true c2
    clear c2
    by_cases c3:0≤x4_1
    ·rw[if_pos c3] at H
     have c3b0:=decide_eq_true c3
     clear c3
     have H':=yaa.mk H
     clear H
     have p629:0≤(x4_1:Int):=of_decide_eq_true zA
     have q629:x4_1<(l0.length:Int):=of_decide_eq_true zA
     obtain⟨ad629,e629,hx629_0⟩:=Kd.at_int HR0.out x4_1 p629 q629
     cases e629
     replace p629:=eq_true p629
     replace q629:=eq_true q629
     go_wp2
     go_loopg [5,6] k1 (fun kq v5 v6 w'=>∃ (x5_2:Int) (x6_2:Int),v5=.int .i64 x5_2∧v6=.int .u64 x6_2∧yaa (yal.l1 kq l0 x3_1 x4_1 x5_2 x6_2=some r)∧yaa (kq≤k1)∧yap w w')
     case atStart=>exact⟨(0),(rd l0 x4_1),zF,zF,H',⟨Nat.le_refl _⟩,zD⟩
     case round =>
      clear H'
      try clear c2
      try clear c2b0
      try clear p2
      try clear c3
      try clear c3b0
      try clear hx629_0
      try clear p629
      try clear q629
      obtain⟨x5_2,x6_2,rfl,rfl,HA,HK2,⟨m2,rfl⟩⟩:=hrel
      cases gk with
      | zero=>exact absurd HA.out (by simp [yal.l1])
      | succ k2 =>
       have H:=HA.out
       clear HA
       simp only[yal.l1] at H
       by_cases c4:x6_2 > 0
       ·rw[if_pos c4] at H
        have c4b0:decide (0<x6_2)=true:=decide_eq_true c4
        clear c4
        have H':=yaa.mk H
        clear H
        go_wp2
        go_roundg k2
        case measure=>have:=HK1.out;have:=HK2.out;omega
        case rel=>exact⟨(wrap64 (x5_2+1)),(IntKind.u64.wrap (Int.tdiv x6_2 2)),zF,zF,H',⟨by have:=HK1.out;have:=HK2.out;omega⟩,zD⟩
       ·rw[if_neg c4] at H
        have c4b0:decide (0<x6_2)=false:=decide_eq_false c4
        clear c4
        by_cases c5:x5_2 > x3_1
        ·rw[if_pos c5] at H
         have c5b0:decide (x3_1<x5_2)=true:=decide_eq_true c5
         clear c5
         have H':=yaa.mk H
         clear H
         go_wp2
         go_roundg k2
         case measure=>have:=HK1.out;have:=HK2.out;omega
         case rel=>exact⟨(x5_2),(wrap64 (x4_1+1)),zF,zF,H',⟨by have:=HK1.out;have:=HK2.out;omega⟩,zD⟩
        ·rw[if_neg c5] at H
         have c5b0:decide (x3_1<x5_2)=false:=decide_eq_false c5
         clear c5
         have H':=yaa.mk H
         clear H
         go_wp2
         go_roundg k2
         case measure=>have:=HK1.out;have:=HK2.out;omega
         case rel=>exact⟨(x3_1),(wrap64 (x4_1+1)),zF,zF,H',⟨by have:=HK1.out;have:=HK2.out;omega⟩,zD⟩
    ·rw[if_neg c3] at H
     exact absurd H (by simp)
   ·rw[if_neg c2] at H
    have c2b0:=decide_eq_false c2
    clear c2
    obtain rfl:=Option.some.inj H
    go_wp2
    go_ret
    exact⟨zF,zD⟩
def ybk.l0:Nat→Int→Int→Int→Option (Int)
 | 0,_,_,_=>none
 | k+1,x0,x3,x4=>if x4<x0 then (ybk.l0 k x0 (IntKind.u64.wrap (x3*2)) (wrap64 (x4+1))) else (some x3)
def ybk.f (k:Nat) (a0:Int):Option (Int):=ybk.l0 k a0 1 0
theorem ybk.calls (k:Nat) (a0:Int) (r:Int) (w:World) (h:ybk.f k a0=some r) :
  Calls Tryz.prog 94 #[.int .i64 a0] w fun e w'=>e=.returned (.int .u64 r)∧yap w w':=by
 have H:(ybk.l0 k a0 1 0)=some r:=h
 clear h
 have H':=yaa.mk H
 clear H
 go_enter Tryz.func94,Tryz.ntmps94
 go_wp2
 go_loopg [3,4] k (fun kq v3 v4 w'=>∃ (x3_1:Int) (x4_1:Int),v3=.int .u64 x3_1∧v4=.int .i64 x4_1∧yaa (ybk.l0 kq a0 x3_1 x4_1=some r)∧yaa (kq≤k)∧yap w w')
 case atStart=>exact⟨(1),(0),zF,zF,H',⟨Nat.le_refl _⟩,zD⟩
 case round =>
  clear H'
  obtain⟨x3_1,x4_1,rfl,rfl,HA,HK1,⟨m1,rfl⟩⟩:=hrel
  cases gk with
  | zero=>exact absurd HA.out (by simp [ybk.l0])
  | succ k1 =>
   have H:=HA.out
   clear HA
   simp only[ybk.l0] at H
   by_cases c2:x4_1<a0
   ·rw[if_pos c2] at H
    have c2b0:=decide_eq_true c2
    clear c2
    have H':=yaa.mk H
    clear H
    go_wp2
    go_roundg k1
    case measure=>have:=HK1.out;omega
    case rel=>exact⟨(IntKind.u64.wrap (x3_1*2)),(wrap64 (x4_1+1)),zF,zF,H',⟨by have:=HK1.out;omega⟩,zD⟩
   ·rw[if_neg c2] at H
    have c2b0:=decide_eq_false c2
    clear c2
    obtain rfl:=Option.some.inj H
    go_wp2
    go_ret
    exact⟨zF,zD⟩
end Go.Proofs.YteeikgjjgfdjgaaGreat.PK
end
section
namespace Go.Proofs.YteeikgjjgfdjgaaGreat.PK
open Go.RowKit YteeikgjjgfdjgaaGreatW.PrintWords YteeikgjjgfdjgaaGreatW.PrintLast YteeikgjjgfdjgaaGreatW.PrintMore
attribute [local go_sem] yce ycf ycu ycv yb8 yb7 ycm yco
set_option linter.unusedVariables false
set_option linter.unusedSimpArgs false
mutual
def ydb.j0:Nat→Int→List Int→Bool→Option (List Int×Int)
 | 0,_,_,_=>none
 | k+1,x0,x1,x16=>if x16=true then (some (([]:List Int),1)) else (if (x1.length:Int) > 4096 then (some (([]:List Int),4)) else ((yal.f k x1).bind fun t630=>(if t630 > x0 then (some (([]:List Int),10)) else (ydb.l0 k x0 x1 (([]:List Int)) 0 0))))
def ydb.l0:Nat→Int→List Int→List Int→Int→Int→Option (List Int×Int)
 | 0,_,_,_,_,_=>none
 | k+1,x0,x1,x6,x7,x8=>if x8<(x1.length:Int) then (if 0≤x8 then (ydb.l1 k x0 x1 x6 x7 x8 (rd x1 x8) 0) else (none)) else (some (x6,0))
def ydb.l1:Nat→Int→List Int→List Int→Int→Int→Int→Int→Option (List Int×Int)
 | 0,_,_,_,_,_,_,_=>none
 | k+1,x0,x1,x6,x7,x8,x9,x10=>if x10<x0 then (if (Int.tmod x7 8)=0 then (if x6.length<140737488355328 then ((some (x6++[0]:List Int)).bind fun y635=>(if 0≤(wrap64 (Int.tdiv x7 8)) then (if (wrap64 (Int.tdiv x7 8))<(y635.length:Int) then ((ybk.f k (Int.tmod x7 8)).bind fun t639=>(ydb.l1 k x0 x1 (y635.set ((wrap64 (Int.tdiv x7 8)):Int).toNat (((rd y635 (wrap64 (Int.tdiv x7 8)))+((IntKind.u64.wrap ((Int.tmod x9 2)*t639))%256))%256)) (wrap64 (x7+1)) x8 (IntKind.u64.wrap (Int.tdiv x9 2)) (wrap64 (x10+1)))) else (none)) else (none))) else (none)) else (if 0≤(wrap64 (Int.tdiv x7 8)) then (if (wrap64 (Int.tdiv x7 8))<(x6.length:Int) then ((ybk.f k (Int.tmod x7 8)).bind fun t642=>(ydb.l1 k x0 x1 (x6.set ((wrap64 (Int.tdiv x7 8)):Int).toNat (((rd x6 (wrap64 (Int.tdiv x7 8)))+((IntKind.u64.wrap ((Int.tmod x9 2)*t642))%256))%256)) (wrap64 (x7+1)) x8 (IntKind.u64.wrap (Int.tdiv x9 2)) (wrap64 (x10+1)))) else (none)) else (none))) else (ydb.l0 k x0 x1 x6 x7 (wrap64 (x8+1)))
end
def ydb.f (k:Nat) (a0:Int) (l1:List Int):Option (List Int×Int):=if a0<0 then (ydb.j0 k a0 l1 true) else (ydb.j0 k a0 l1 (decide (a0 > 64)))
def yhp.f (a0:Int):Option (Int):=if a0≥0 then (some (IntKind.u64.wrap ((IntKind.u64.wrap (a0))*2))) else (some (IntKind.u64.wrap ((IntKind.u64.wrap ((IntKind.u64.wrap (wrap64 (-(wrap64 (a0+1)))))*2))+1)))
end Go.Proofs.YteeikgjjgfdjgaaGreat.PK
end
