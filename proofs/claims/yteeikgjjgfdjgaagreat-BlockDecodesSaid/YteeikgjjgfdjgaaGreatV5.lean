/-
  Parts of the proof: E1, E6.
-/
import Derived.Test.YteeikgjjgfdjgaaGreatV3
import Derived.Test.YteeikgjjgfdjgaaGreatV4
set_option maxHeartbeats 8000000
set_option maxRecDepth 100000
section
namespace Go.Proofs.YteeikgjjgfdjgaaGreat.PK
open Go.RowKit YteeikgjjgfdjgaaGreatW.PrintWords YteeikgjjgfdjgaaGreatW.PrintLast YteeikgjjgfdjgaaGreatW.PrintMore
attribute [local go_sem] yce ycf ycu ycv yb8 yb7 ycm yco
set_option linter.unusedVariables false
set_option linter.unusedSimpArgs false
def yb3.f (a0:Int):Option (Bool):=if a0<1 then (some true) else (some (decide (a0 > 8)))
theorem yb3.calls (a0:Int) (r:Bool) (w:World) (h:yb3.f a0=some r) :
  Calls Tryz.prog 28 #[.int .i64 a0] w fun e w'=>e=.returned (.bool r)∧yap w w':=by
 have H:(if a0<1 then (some true) else (some (decide (a0 > 8))))=some r:=h
 clear h
 by_cases c2:a0<1
 ·rw[if_pos c2] at H
  have c2b0:=decide_eq_true c2
  clear c2
  obtain rfl:=Option.some.inj H
  go_enter Tryz.func28,Tryz.ntmps28
  go_wp2
  go_ret
  exact⟨zF,zD⟩
 ·rw[if_neg c2] at H
  have c2b0:=decide_eq_false c2
  clear c2
  obtain rfl:=Option.some.inj H
  go_enter Tryz.func28,Tryz.ntmps28
  go_wp2
  go_ret
  exact⟨zF,zD⟩
def ybp.f (a0:Int):Option (Bool):=if a0≥1 then (some (decide (a0≤6))) else (some false)
theorem ybp.calls (a0:Int) (r:Bool) (w:World) (h:ybp.f a0=some r) :
  Calls Tryz.prog 50 #[.int .i64 a0] w fun e w'=>e=.returned (.bool r)∧yap w w':=by
 have H:(if a0≥1 then (some (decide (a0≤6))) else (some false))=some r:=h
 clear h
 by_cases c2:a0≥1
 ·rw[if_pos c2] at H
  have c2b0:decide (1≤a0)=true:=decide_eq_true c2
  clear c2
  obtain rfl:=Option.some.inj H
  go_enter Tryz.func50,Tryz.ntmps50
  go_wp2
  go_ret
  exact⟨zF,zD⟩
 ·rw[if_neg c2] at H
  have c2b0:decide (1≤a0)=false:=decide_eq_false c2
  clear c2
  obtain rfl:=Option.some.inj H
  go_enter Tryz.func50,Tryz.ntmps50
  go_wp2
  go_ret
  exact⟨zF,zD⟩
def ybs.j0:Nat→Int→Int→Bool→Option (Bool)
 | 0,_,_,_=>none
 | k+1,x0,x5,x8=>if x8=true then ((ybp.f x0).bind fun t101=>(some t101)) else (if x5=4 then ((ybp.f x0).bind fun t102=>(some (!t102))) else (if x5=5 then ((ybp.f x0).bind fun t103=>(some (!t103))) else (some false)))
def ybs.f (k:Nat) (a0:Int) (a1:Int):Option (Bool):=if a1=1 then (some true) else (if a1=2 then (ybs.j0 k a0 a1 (a1 == 2)) else (ybs.j0 k a0 a1 (a1 == 3)))
theorem ybs.calls (k:Nat) (a0:Int) (a1:Int) (r:Bool) (w:World) (h:ybs.f k a0 a1=some r) :
  Calls Tryz.prog 29 #[.int .i64 a0,.int .i64 a1] w fun e w'=>e=.returned (.bool r)∧yap w w':=by
 have H:(if a1=1 then (some true) else (if a1=2 then (ybs.j0 k a0 a1 (a1 == 2)) else (ybs.j0 k a0 a1 (a1 == 3))))=some r:=h
 clear h
 by_cases c3:a1=1
 ·rw[if_pos c3] at H
  have c3b0:(a1 == 1)=true:=beq_iff_eq.mpr c3
  have c3b1:(a1 != 1)=false:=bne_eq_false_iff_eq.mpr c3
  clear c3
  obtain rfl:=Option.some.inj H
  go_enter Tryz.func29,Tryz.ntmps29
  go_wp2
  go_ret
  exact⟨zF,zD⟩
 ·rw[if_neg c3] at H
  have c3b0:(a1 == 1)=false:=beq_eq_false_iff_ne.mpr c3
  have c3b1:(a1 != 1)=true:=bne_iff_ne.mpr c3
  have HC4:=yaa.mk H
  clear H
  go_enter Tryz.func29,Tryz.ntmps29
  go_upto_if 8 with (fail)
  go_cut [8] (fun v8 wc=>∃ (kq:Nat) (x8_3:Bool),v8=.bool x8_3∧yaa (ybs.j0 kq a0 a1 x8_3=some r)∧yaa (kq≤k)∧yap w wc)
  case first =>
   have H:=HC4.out
   clear HC4
   by_cases c5:a1=2
   ·rw[if_pos c5] at H
    have c5b0:(a1 == 2)=true:=beq_iff_eq.mpr c5
    have c5b1:(a1 != 2)=false:=bne_eq_false_iff_eq.mpr c5
    clear c5
    (first|rw[c5b0]|(simp only[ybz,ycs];rw[c5b0])|skip)
    have H':=yaa.mk H
    clear H
    go_wp2
    go_meet
    case rel=>exact⟨_,((a1 == 2)),zF,H',⟨by first|omega|exact Nat.le_refl _⟩,zD⟩
   ·rw[if_neg c5] at H
    have c5b0:(a1 == 2)=false:=beq_eq_false_iff_ne.mpr c5
    have c5b1:(a1 != 2)=true:=bne_iff_ne.mpr c5
    (first|rw[c5b0]|(simp only[ybz,ycs];rw[c5b0])|skip)
    have H':=yaa.mk H
    clear H
    go_wp2
    go_meet
    case rel=>exact⟨_,((a1 == 3)),zF,H',⟨by first|omega|exact Nat.le_refl _⟩,zD⟩
  case rest =>
   clear HC4
   try clear c2
   try clear p2
   try clear c3
   try clear c3b0
   try clear c3b1
   try clear c5
   try clear c5b0
   try clear c5b1
   obtain⟨kq,x8_3,rfl,HA,HJ3,⟨mc3,rfl⟩⟩:=hcut
   cases kq with
   | zero=>exact absurd HA.out (by simp [ybs.j0])
   | succ kj3 =>
    have H:=HA.out
    clear HA
    simp only[ybs.j0] at H
    by_cases c6:x8_3=true
    ·subst c6
     have H1:((ybp.f a0).bind fun t101=>(some t101))=some r:=by rw[if_pos rfl] at H;exact H
     clear H
     have H:=H1
     clear H1
     replace H:=Option.bind_eq_some_iff.mp H
     obtain⟨t101,A70,H⟩:=H
     try dsimp only at H
     have A7:=yaa.mk A70
     clear A70
     obtain rfl:=Option.some.inj H
     go_wp2_with (first|((with_reducible refine yad (f:=50) rfl ?_);refine yak (some 12) rfl rfl Tryz.func50 (by kernel_rfl) rfl #[.int .i64 a0] rfl zE ?_;(with_reducible refine(ybp.calls a0 t101 _ A7.out).mono ?_);rintro e w' ⟨rfl,⟨nd,rfl⟩⟩;refine⟨_,rfl,?_⟩))
     go_ret
     exact⟨zF,zD⟩
    ·replace c6:=Bool.eq_false_iff.mpr c6
     subst c6
     have H1:(if a1=4 then ((ybp.f a0).bind fun t102=>(some (!t102))) else (if a1=5 then ((ybp.f a0).bind fun t103=>(some (!t103))) else (some false)))=some r:=by rw[if_neg (show ¬ (false=true) by decide)] at H;exact H
     clear H
     have H:=H1
     clear H1
     by_cases c8:a1=4
     ·rw[if_pos c8] at H
      have c8b0:(a1 == 4)=true:=beq_iff_eq.mpr c8
      have c8b1:(a1 != 4)=false:=bne_eq_false_iff_eq.mpr c8
      clear c8
      replace H:=Option.bind_eq_some_iff.mp H
      obtain⟨t102,A90,H⟩:=H
      try dsimp only at H
      have A9:=yaa.mk A90
      clear A90
      obtain rfl:=Option.some.inj H
      go_wp2_with (first|((with_reducible refine yad (f:=50) rfl ?_);refine yak (some 17) rfl rfl Tryz.func50 (by kernel_rfl) rfl #[.int .i64 a0] rfl zE ?_;(with_reducible refine(ybp.calls a0 t102 _ A9.out).mono ?_);rintro e w' ⟨rfl,⟨nd,rfl⟩⟩;refine⟨_,rfl,?_⟩))
      go_ret
      exact⟨zF,zD⟩
     ·rw[if_neg c8] at H
      have c8b0:(a1 == 4)=false:=beq_eq_false_iff_ne.mpr c8
      have c8b1:(a1 != 4)=true:=bne_iff_ne.mpr c8
      by_cases c10:a1=5
      ·rw[if_pos c10] at H
       have c10b0:(a1 == 5)=true:=beq_iff_eq.mpr c10
       have c10b1:(a1 != 5)=false:=bne_eq_false_iff_eq.mpr c10
       clear c10
       replace H:=Option.bind_eq_some_iff.mp H
       obtain⟨t103,A110,H⟩:=H
       try dsimp only at H
       have A11:=yaa.mk A110
       clear A110
       obtain rfl:=Option.some.inj H
       go_wp2_with (first|((with_reducible refine yad (f:=50) rfl ?_);refine yak (some 17) rfl rfl Tryz.func50 (by kernel_rfl) rfl #[.int .i64 a0] rfl zE ?_;(with_reducible refine(ybp.calls a0 t103 _ A11.out).mono ?_);rintro e w' ⟨rfl,⟨nd,rfl⟩⟩;refine⟨_,rfl,?_⟩))
       go_ret
       exact⟨zF,zD⟩
      ·rw[if_neg c10] at H
       have c10b0:(a1 == 5)=false:=beq_eq_false_iff_ne.mpr c10
       have c10b1:(a1 != 5)=true:=bne_iff_ne.mpr c10
       obtain rfl:=Option.some.inj H
       go_wp2
       go_ret
       exact⟨zF,zD⟩
def yea.f (a0:Int):Option (Bool):=if a0≥1 then (some (decide (a0≤8))) else (some false)
theorem yea.calls (a0:Int) (r:Bool) (w:World) (h:yea.f a0=some r) :
  Calls Tryz.prog 80 #[.int .i64 a0] w fun e w'=>e=.returned (.bool r)∧yap w w':=by
 have H:(if a0≥1 then (some (decide (a0≤8))) else (some false))=some r:=h
 clear h
 by_cases c2:a0≥1
 ·rw[if_pos c2] at H
  have c2b0:decide (1≤a0)=true:=decide_eq_true c2
  clear c2
  obtain rfl:=Option.some.inj H
  go_enter Tryz.func80,Tryz.ntmps80
  go_wp2
  go_ret
  exact⟨zF,zD⟩
 ·rw[if_neg c2] at H
  have c2b0:decide (1≤a0)=false:=decide_eq_false c2
  clear c2
  obtain rfl:=Option.some.inj H
  go_enter Tryz.func80,Tryz.ntmps80
  go_wp2
  go_ret
  exact⟨zF,zD⟩
def yej.f (a0:Int) (a1:Int):Option (Int×Bool):=if a1=1 then (some (wrap64 (IntKind.i8.wrap (a0)),((wrap64 (IntKind.i8.wrap (a0))) == a0))) else (if a1=2 then (some (wrap64 (IntKind.i16.wrap (a0)),((wrap64 (IntKind.i16.wrap (a0))) == a0))) else (if a1=4 then (some (wrap64 (wrap32 (a0)),((wrap64 (wrap32 (a0))) == a0))) else (if a1=8 then (some (a0,(a0 == a0))) else (some (0,false)))))
theorem yej.calls (a0:Int) (a1:Int) (r1:Int) (r2:Bool) (w:World) (h:yej.f a0 a1=some (r1,r2)) :
  Calls Tryz.prog 123 #[.int .i64 a0,.int .i64 a1] w fun e w'=>e=.returned (.tuple #[.int .i64 r1,.bool r2])∧yap w w':=by
 have H:(if a1=1 then (some (wrap64 (IntKind.i8.wrap (a0)),((wrap64 (IntKind.i8.wrap (a0))) == a0))) else (if a1=2 then (some (wrap64 (IntKind.i16.wrap (a0)),((wrap64 (IntKind.i16.wrap (a0))) == a0))) else (if a1=4 then (some (wrap64 (wrap32 (a0)),((wrap64 (wrap32 (a0))) == a0))) else (if a1=8 then (some (a0,(a0 == a0))) else (some (0,false))))))=some (r1,r2):=h
 clear h
 by_cases c3:a1=1
 ·rw[if_pos c3] at H
  have c3b0:(a1 == 1)=true:=beq_iff_eq.mpr c3
  have c3b1:(a1 != 1)=false:=bne_eq_false_iff_eq.mpr c3
  clear c3
  simp only[Option.some.injEq,Prod.mk.injEq] at H
  obtain⟨rfl,rfl⟩:=H
  go_enter Tryz.func123,Tryz.ntmps123
  go_wp2
  go_ret2
  exact⟨zF,zD⟩
 ·rw[if_neg c3] at H
  have c3b0:(a1 == 1)=false:=beq_eq_false_iff_ne.mpr c3
  have c3b1:(a1 != 1)=true:=bne_iff_ne.mpr c3
  by_cases c4:a1=2
  ·rw[if_pos c4] at H
   have c4b0:(a1 == 2)=true:=beq_iff_eq.mpr c4
   have c4b1:(a1 != 2)=false:=bne_eq_false_iff_eq.mpr c4
   clear c4
   simp only[Option.some.injEq,Prod.mk.injEq] at H
   obtain⟨rfl,rfl⟩:=H
   go_enter Tryz.func123,Tryz.ntmps123
   go_wp2
   go_ret2
   exact⟨zF,zD⟩
  ·rw[if_neg c4] at H
   have c4b0:(a1 == 2)=false:=beq_eq_false_iff_ne.mpr c4
   have c4b1:(a1 != 2)=true:=bne_iff_ne.mpr c4
   by_cases c5:a1=4
   ·rw[if_pos c5] at H
    have c5b0:(a1 == 4)=true:=beq_iff_eq.mpr c5
    have c5b1:(a1 != 4)=false:=bne_eq_false_iff_eq.mpr c5
    clear c5
    simp only[Option.some.injEq,Prod.mk.injEq] at H
    obtain⟨rfl,rfl⟩:=H
    go_enter Tryz.func123,Tryz.ntmps123
    go_wp2
    go_ret2
    exact⟨zF,zD⟩
   ·rw[if_neg c5] at H
    have c5b0:(a1 == 4)=false:=beq_eq_false_iff_ne.mpr c5
    have c5b1:(a1 != 4)=true:=bne_iff_ne.mpr c5
    by_cases c6:a1=8
    ·rw[if_pos c6] at H
     have c6b0:(a1 == 8)=true:=beq_iff_eq.mpr c6
     have c6b1:(a1 != 8)=false:=bne_eq_false_iff_eq.mpr c6
     clear c6
     simp only[Option.some.injEq,Prod.mk.injEq] at H
     obtain⟨rfl,rfl⟩:=H
     go_enter Tryz.func123,Tryz.ntmps123
     go_wp2
     go_ret2
     exact⟨zF,zD⟩
    ·rw[if_neg c6] at H
     have c6b0:(a1 == 8)=false:=beq_eq_false_iff_ne.mpr c6
     have c6b1:(a1 != 8)=true:=bne_iff_ne.mpr c6
     simp only[Option.some.injEq,Prod.mk.injEq] at H
     obtain⟨rfl,rfl⟩:=H
     go_enter Tryz.func123,Tryz.ntmps123
     go_wp2
     go_ret2
     exact⟨zF,zD⟩
def yg1.f (a0:Int) (a1:Int):Option (Bool):=if a0=5 then (some (a1 == (wrap64 (IntKind.u16.wrap (a1))))) else (if a0=6 then (some ((a1 / 2) == 0)) else (if 0≤(IntKind.u64.wrap (wrap64 (a0-1))) then ((yej.f a1 (shl .i64 1 (IntKind.u64.wrap (wrap64 (a0-1))))).bind fun bt104=>(some bt104.2)) else (none)))
theorem yg1.calls (a0:Int) (a1:Int) (r:Bool) (w:World) (h:yg1.f a0 a1=some r) :
  Calls Tryz.prog 82 #[.int .i64 a0,.int .i64 a1] w fun e w'=>e=.returned (.bool r)∧yap w w':=by
 have H:(if a0=5 then (some (a1 == (wrap64 (IntKind.u16.wrap (a1))))) else (if a0=6 then (some ((a1 / 2) == 0)) else (if 0≤(IntKind.u64.wrap (wrap64 (a0-1))) then ((yej.f a1 (shl .i64 1 (IntKind.u64.wrap (wrap64 (a0-1))))).bind fun bt104=>(some bt104.2)) else (none))))=some r:=h
 clear h
 by_cases c3:a0=5
 ·rw[if_pos c3] at H
  have c3b0:(a0 == 5)=true:=beq_iff_eq.mpr c3
  have c3b1:(a0 != 5)=false:=bne_eq_false_iff_eq.mpr c3
  clear c3
  obtain rfl:=Option.some.inj H
  go_enter Tryz.func82,Tryz.ntmps82
  go_wp2
  go_ret
  exact⟨zF,zD⟩
 ·rw[if_neg c3] at H
  have c3b0:(a0 == 5)=false:=beq_eq_false_iff_ne.mpr c3
  have c3b1:(a0 != 5)=true:=bne_iff_ne.mpr c3
  by_cases c4:a0=6
  ·rw[if_pos c4] at H
   have c4b0:(a0 == 6)=true:=beq_iff_eq.mpr c4
   have c4b1:(a0 != 6)=false:=bne_eq_false_iff_eq.mpr c4
   clear c4
   obtain rfl:=Option.some.inj H
   go_enter Tryz.func82,Tryz.ntmps82
   go_wp2
   go_ret
   exact⟨zF,zD⟩
  ·rw[if_neg c4] at H
   have c4b0:(a0 == 6)=false:=beq_eq_false_iff_ne.mpr c4
   have c4b1:(a0 != 6)=true:=bne_iff_ne.mpr c4
   obtain⟨ji5,hji5⟩:∃ j_:Int,(IntKind.u64.wrap (wrap64 (a0-1)))=j_:=⟨_,rfl⟩
   replace H:(if 0≤(ji5) then ((yej.f a1 (shl .i64 1 (ji5))).bind fun bt104=>(some bt104.2)) else (none))=some r:=by first|(rw[hji5] at H;exact H)|(simp only[hji5] at H ⊢;exact H)
   by_cases c6:0≤(ji5)
   ·rw[if_pos c6] at H
    have c6b0:=eq_true c6
    have c6b1:=decide_eq_true c6
    clear c6
    obtain⟨ji7,hji7⟩:∃ j_:Int,(shl .i64 1 (ji5))=j_:=⟨_,rfl⟩
    replace H:((yej.f a1 (ji7)).bind fun bt104=>(some bt104.2))=some r:=by first|(rw[hji7] at H;exact H)|(simp only[hji7] at H ⊢;exact H)
    have hji7_:(IntKind.i64.wrap (1*2^min (ji5).toNat 64))=ji7:=hji7
    have hji7z:(ji5)≤64→(IntKind.i64.wrap (1*2^(ji5).toNat))=ji7:=yhc hji7
    have hji7u:(IntKind.i64.wrap (2^min (ji5).toNat 64))=ji7:=by have h_:=hji7_;rw[Int.one_mul] at h_;exact h_
    have hji7v:(ji5)≤64→(IntKind.i64.wrap (2^(ji5).toNat))=ji7:=fun hle_=>by have h_:=hji7z hle_;rw[Int.one_mul] at h_;exact h_
    have hji7y:(wrap64 (1*2^min (ji5).toNat 64))=ji7:=(ybz _).symm.trans hji7_
    have hji7x:(ji5)≤64→(wrap64 (1*2^(ji5).toNat))=ji7:=fun h_=>(ybz _).symm.trans (hji7z h_)
    replace H:=Option.bind_eq_some_iff.mp H
    obtain⟨⟨t104,t105⟩,A80,H⟩:=H
    try dsimp only at H
    have A8:=yaa.mk A80
    clear A80
    obtain rfl:=Option.some.inj H
    go_enter Tryz.func82,Tryz.ntmps82
    go_wp2_with (first|((with_reducible refine yad (f:=123) rfl ?_);refine yak (some 26) rfl rfl Tryz.func123 (by kernel_rfl) rfl #[.int .i64 a1,.int .i64 ji7] rfl (by (try simp only[List.map_toArray,List.map_cons,List.map_nil]);first|done|(simp only[hji7];rfl)|rfl|(simp only[List.length_drop,List.length_take];rfl)) ?_;(with_reducible refine(yej.calls a1 ji7 t104 t105 _ A8.out).mono ?_);rintro e w' ⟨rfl,⟨nd,rfl⟩⟩;refine⟨_,rfl,?_⟩))
    go_ret
    exact⟨by first|rfl|(simp;done)|(simp only[← hji5,← hji7] <;> (first|rfl|simp))|(simp [*];done),zD⟩
   ·rw[if_neg c6] at H
    exact absurd H (by simp)
def ya0.l0:Nat→Int→List Int→Option (List Int)
 | 0,_,_=>none
 | k+1,x0,x3=>if x0≥128 then (if x3.length<140737488355328 then (ya0.l0 k (x0 / 128) (x3++[Go.bits .or .u8 ((x0)%256) 128])) else (none)) else (if x3.length<140737488355328 then (some (x3++[(x0)%256])) else (none))
def ya0.f (k:Nat) (a0:Int):Option (List Int):=ya0.l0 k a0 ([]:List Int)
theorem ya0.mono_l:∀ k,(∀ y0 y1,LeO (ya0.l0 k y0 y1) (ya0.l0 (k+1) y0 y1))
 | 0=>fun _ _ r h=>by simp [ya0.l0] at h
 | k+1=>by
  have ih0:=ya0.mono_l k
  ·intro y0 y1
   unfold ya0.l0
   repeat' first
   | (with_reducible exact ih0 _ _)
   | (with_reducible exact LeO.refl _)
   | (with_reducible exact LeO.none _)
   | (with_reducible refine LeO.ite ?_ ?_)
   | (with_reducible refine LeO.bind ?_ (fun _=>?_))
theorem ya0.mono:∀ a0 k,LeO (ya0.f k a0) (ya0.f (k+1) a0):=by
 intro a0 k
 have ih0:=ya0.mono_l k
 unfold ya0.f
 repeat' first
   | (with_reducible exact ih0 _ _)
   | (with_reducible exact LeO.refl _)
   | (with_reducible exact LeO.none _)
   | (with_reducible refine LeO.ite ?_ ?_)
   | (with_reducible refine LeO.bind ?_ (fun _=>?_))
theorem ya0.calls (k:Nat) (a0:Int) (r:List Int) (w:World) (h:ya0.f k a0=some r) :
  Calls Tryz.prog 52 #[.int .u64 a0] w fun e w'=>∃ v0_:Value,e=.returned (v0_)∧Kd.R (Kd.int .u8) 5 w' w.heap.size (fun _=>True) v0_ r∧Below w.heap.size w w':=by
 have HB:=yaa.mk (Below.refl w.heap.size w)
 have H:(ya0.l0 k a0 ([]:List Int))=some r:=h
 clear h
 have H':=yaa.mk H
 clear H
 go_enter Tryz.func52,Tryz.ntmps52
 go_wp2
 go_loopg [0,3] k (fun kq v0 v3 w'=>∃ (x0_1:Int) (x3_1:List Int),v0=.int .u64 x0_1∧yaa (ya0.l0 kq x0_1 x3_1=some r)∧yaa (kq≤k)∧yaa (Kd.R (Kd.int .u8) 5 w' w.heap.size (fun _=>True) v3 x3_1)∧yaa (Below w.heap.size w w'))
 case atStart=>exact⟨(a0),(([]:List Int)),zF,H',⟨Nat.le_refl _⟩,⟨zN⟩,⟨zB⟩⟩
 case round =>
  clear H'
  obtain⟨x0_1,x3_1,rfl,HA,HK1,HO_3,HB⟩:=hrel
  cases gk with
  | zero=>exact absurd HA.out (by simp [ya0.l0])
  | succ k1 =>
   have H:=HA.out
   clear HA
   simp only[ya0.l0] at H
   by_cases c2:x0_1≥128
   ·rw[if_pos c2] at H
    have c2b0:decide (128≤x0_1)=true:=decide_eq_true c2
    clear c2
    by_cases c3:x3_1.length<140737488355328
    ·rw[if_pos c3] at H
     have LMc3:=yaa.mk c3
     clear c3
     obtain⟨y114,hy114⟩:∃ y_:List Int,y_=(x3_1++[Go.bits .or .u8 ((x0_1)%256) 128]):=⟨_,rfl⟩
     replace H:(ya0.l0 k1 (x0_1 / 128) y114)=some r:=by first|(rw[hy114];with_reducible exact H)|(have H2_:=(Option.bind_some _ _).symm.trans H;rw[hy114];with_reducible exact H2_)|(have H2_:=(Option.bind_some _ _).symm.trans H;with_reducible exact H2_)|with_reducible exact H|(rw[hy114];exact H)|exact H
     have Ny114:=yaa.mk hy114
     clear hy114
     have H':=yaa.mk H
     clear H
     go_wp2_with (first|((with_reducible refine ybm (b:=.append) (xs:=#[.tmp 6,.tmp 10]) rfl ?_);at_builtin;refine Kd.R_append (Kd.int .u8) (w0:=w) w.heap.size rfl (.tmp 6) (.tmp 10) 25 5 (.int .u8 0) 1 rfl Tryz.underlying25 ycj rfl (by decide) (by omega) u3 x3_1 (Go.bits .or .u8 ((x0_1)%256) 128) [.int .u8 (Go.bits .or .u8 ((x0_1)%256) 128)] (fun _=>True) (fun _=>False) rfl rfl ?aP (fun _ hk=>hk.elim) ?aF ?aO ?aB ?aS ?aL ?_;(case aP=>exact rfl);(case aB=>exact zB);(case aF=>exact fun _ _=>trivial);(case aO=>exact(zR HO_3.out));(case aS=>exact(yaf zB));(case aL=>have:=LMc3.out;omega);intro v115 w4 ho hb hg hat;rw[← Ny114.out] at ho;have n0_:=yaa.mk (hb);have n1_:=yaa.mk (ho);clear HB;clear HO_3;have HB:=n0_;have HO116:=n1_;clear n0_ n1_;clear ho hb hg hat))
     go_roundg k1
     case measure=>have:=HK1.out;omega
     case rel=>exact⟨(x0_1 / 128),(y114),zF,H',⟨by have:=HK1.out;omega⟩,⟨zR HO116.out⟩,⟨zB⟩⟩
    ·rw[if_neg c3] at H
     exact absurd H (by simp)
   ·rw[if_neg c2] at H
    have c2b0:decide (128≤x0_1)=false:=decide_eq_false c2
    clear c2
    by_cases c5:x3_1.length<140737488355328
    ·rw[if_pos c5] at H
     have LMc5:=yaa.mk c5
     clear c5
     obtain⟨y117,hy117⟩:∃ y_:List Int,y_=(x3_1++[(x0_1)%256]):=⟨_,rfl⟩
     replace H:(some y117)=some r:=by first|(rw[hy117];with_reducible exact H)|(have H2_:=(Option.bind_some _ _).symm.trans H;rw[hy117];with_reducible exact H2_)|(have H2_:=(Option.bind_some _ _).symm.trans H;with_reducible exact H2_)|with_reducible exact H|(rw[hy117];exact H)|exact H
     have Ny117:=yaa.mk hy117
     clear hy117
     obtain rfl:=Option.some.inj H
     go_wp2_with (first|((with_reducible refine ybm (b:=.append) (xs:=#[.tmp 14,.tmp 17]) rfl ?_);at_builtin;refine Kd.R_append (Kd.int .u8) (w0:=w) w.heap.size rfl (.tmp 14) (.tmp 17) 25 5 (.int .u8 0) 1 rfl Tryz.underlying25 ycj rfl (by decide) (by omega) u3 x3_1 ((x0_1)%256) [.int .u8 ((x0_1)%256)] (fun _=>True) (fun _=>False) rfl rfl ?aP (fun _ hk=>hk.elim) ?aF ?aO ?aB ?aS ?aL ?_;(case aP=>exact rfl);(case aB=>exact zB);(case aF=>exact fun _ _=>trivial);(case aO=>exact(zR HO_3.out));(case aS=>exact(yaf zB));(case aL=>have:=LMc5.out;omega);intro v118 w6 ho hb hg hat;rw[← Ny117.out] at ho;have n0_:=yaa.mk (hb);have n1_:=yaa.mk (ho);clear HB;clear HO_3;have HB:=n0_;have HO119:=n1_;clear n0_ n1_;clear ho hb hg hat))
     go_ret
     exact⟨_,zG,zR HO119.out,zB⟩
    ·rw[if_neg c5] at H
     exact absurd H (by simp)
def bits_Len64.f (_k:Nat) (a0:Int):Option Int:=if 0≤a0 then (if a0≤18446744073709551615 then some ((Lib.bitLen a0.toNat:Nat):Int) else none) else none
theorem bits_Len64.calls (k:Nat) (a0:Int) (r:Int) (w:World) (h:bits_Len64.f k a0=some r) :
  Calls Tryz.prog 104 #[.int .u64 a0] w fun e w'=>e=.returned (.int .i64 r)∧yap w w':=by
 unfold bits_Len64.f at h
 split at h
 ·split at h
  ·rename_i h0 h1
   obtain rfl:=Option.some.inj h
   refine(Tryz.bits_Len64 a0 w h0 h1).mono ?_
   rintro e w' ⟨rfl,rfl⟩
   exact⟨rfl,yap.refl _⟩
  ·exact absurd h (by simp)
 ·exact absurd h (by simp)
def ybb.l0:Nat→Int→List Int→Int→Int→Option (Int)
 | 0,_,_,_,_=>none
 | k+1,x3,x6,x7,x8=>if x8<x7 then (if 0≤x8 then (if x8<(x6.length:Int) then (ybb.l0 k (Go.bits .or .u64 x3 (rd x6 x8)) x6 x7 (wrap64 (x8+1))) else (none)) else (none)) else ((bits_Len64.f k x3).bind fun t121=>(some t121))
def ybb.f (k:Nat) (l0:List Int):Option (Int):=ybb.l0 k 0 l0 (l0.length:Int) 0
theorem ybb.calls (k:Nat) (A0:Option Addr) (c0:Nat) (l0:List Int) (r:Int) (w:World) (hr0:Kd.C (Kd.int .u64) w A0 l0.length l0) (hc0:l0.length≤c0) (h:ybb.f k l0=some r) :
  Calls Tryz.prog 64 #[.slice A0 l0.length c0] w fun e w'=>e=.returned (.int .i64 r)∧yap w w':=by
 have HR0:=yaa.mk hr0
 have HC0:=yaa.mk hc0
 clear hr0 hc0
 have H:(ybb.l0 k 0 l0 (l0.length:Int) 0)=some r:=h
 clear h
 have H':=yaa.mk H
 clear H
 go_enter Tryz.func64,Tryz.ntmps64
 go_wp2
 go_loopg [3,8] k (fun kq v3 v8 w'=>∃ (x3_1:Int) (x8_1:Int),v3=.int .u64 x3_1∧v8=.int .i64 x8_1∧yaa (ybb.l0 kq x3_1 l0 (l0.length:Int) x8_1=some r)∧yaa (kq≤k)∧yap w w')
 case atStart=>exact⟨(0),(0),zF,zF,H',⟨Nat.le_refl _⟩,zD⟩
 case round =>
  clear H'
  obtain⟨x3_1,x8_1,rfl,rfl,HA,HK1,⟨m1,rfl⟩⟩:=hrel
  cases gk with
  | zero=>exact absurd HA.out (by simp [ybb.l0])
  | succ k1 =>
   have H:=HA.out
   clear HA
   simp only[ybb.l0] at H
   by_cases c2:x8_1<(l0.length:Int)
   ·rw[if_pos c2] at H
    have c2b0:=decide_eq_true c2
    clear c2
    by_cases c3:0≤x8_1
    ·rw[if_pos c3] at H
     have c3b0:=decide_eq_true c3
     clear c3
     by_cases c4:x8_1<(l0.length:Int)
     ·rw[if_pos c4] at H
      have c4b0:=decide_eq_true c4
      clear c4
      have H':=yaa.mk H
      clear H
      have p120:0≤(x8_1:Int):=of_decide_eq_true zA
      have q120:x8_1<(l0.length:Int):=of_decide_eq_true zA
      obtain⟨ad120,e120,hx120_0⟩:=Kd.at_int HR0.out x8_1 p120 q120
      cases e120
      replace p120:=eq_true p120
      replace q120:=eq_true q120
      go_wp2
      go_roundg k1
      case measure=>have:=HK1.out;omega
      case rel=>exact⟨(Go.bits .or .u64 x3_1 (rd l0 x8_1)),(wrap64 (x8_1+1)),zF,zF,H',⟨by have:=HK1.out;omega⟩,zD⟩
     ·rw[if_neg c4] at H
      exact absurd H (by simp)
    ·rw[if_neg c3] at H
     exact absurd H (by simp)
   ·rw[if_neg c2] at H
    have c2b0:=decide_eq_false c2
    clear c2
    replace H:=Option.bind_eq_some_iff.mp H
    obtain⟨t121,A50,H⟩:=H
    try dsimp only at H
    have A5:=yaa.mk A50
    clear A50
    obtain rfl:=Option.some.inj H
    go_wp2_with (first|((with_reducible refine yad (f:=104) rfl ?_);refine yak (some 17) rfl rfl Tryz.func104 (by kernel_rfl) rfl #[.int .u64 x3_1] rfl zE ?_;(with_reducible refine(bits_Len64.calls k1 x3_1 t121 _ A5.out).mono ?_);rintro e w' ⟨rfl,⟨nd,rfl⟩⟩;refine⟨_,rfl,?_⟩))
    go_ret
    exact⟨zF,zD⟩
def yc2.f (a0:Int):Option (Bool):=if a0<0 then (some true) else (some (decide (a0 > 64)))
theorem yc2.calls (a0:Int) (r:Bool) (w:World) (h:yc2.f a0=some r) :
  Calls Tryz.prog 101 #[.int .i64 a0] w fun e w'=>e=.returned (.bool r)∧yap w w':=by
 have H:(if a0<0 then (some true) else (some (decide (a0 > 64))))=some r:=h
 clear h
 by_cases c2:a0<0
 ·rw[if_pos c2] at H
  have c2b0:=decide_eq_true c2
  clear c2
  obtain rfl:=Option.some.inj H
  go_enter Tryz.func101,Tryz.ntmps101
  go_wp2
  go_ret
  exact⟨zF,zD⟩
 ·rw[if_neg c2] at H
  have c2b0:=decide_eq_false c2
  clear c2
  obtain rfl:=Option.some.inj H
  go_enter Tryz.func101,Tryz.ntmps101
  go_wp2
  go_ret
  exact⟨zF,zD⟩
def ydg.f (a0:Int) (a1:Int):Option (Int):=some (wrap64 (Int.tdiv (wrap64 ((wrap64 (a0*a1))+7)) 8))
theorem ydg.calls (a0:Int) (a1:Int) (r:Int) (w:World) (h:ydg.f a0 a1=some r) :
  Calls Tryz.prog 102 #[.int .i64 a0,.int .i64 a1] w fun e w'=>e=.returned (.int .i64 r)∧yap w w':=by
 have H:(some (wrap64 (Int.tdiv (wrap64 ((wrap64 (a0*a1))+7)) 8)))=some r:=h
 clear h
 obtain rfl:=Option.some.inj H
 go_enter Tryz.func102,Tryz.ntmps102
 go_wp2
 go_ret
 exact⟨zF,zD⟩
end Go.Proofs.YteeikgjjgfdjgaaGreat.PK
end
section
namespace Go.Proofs.YteeikgjjgfdjgaaGreat.PK
open Go.RowKit YteeikgjjgfdjgaaGreatW.PrintWords YteeikgjjgfdjgaaGreatW.PrintLast YteeikgjjgfdjgaaGreatW.PrintMore
attribute [local go_sem] yce ycf ycu ycv yb8 yb7 ycm yco
set_option linter.unusedVariables false
set_option linter.unusedSimpArgs false
mutual
def yaw.j0:Nat→List Int→Int→Bool→Option (Int×Int×Int)
 | 0,_,_,_=>none
 | k+1,x0,x1,x17=>if x17=true then (some (0,0,1)) else (yaw.l0 k x0 x1 0 0)
def yaw.l0:Nat→List Int→Int→Int→Int→Option (Int×Int×Int)
 | 0,_,_,_,_=>none
 | k+1,x0,x1,x7,x8=>if x8≥(wrap64 ((x0.length:Int)-x1)) then (some (0,0,2)) else (if 0≤(wrap64 (x1+x8)) then (if (wrap64 (x1+x8))<(x0.length:Int) then (if x8=9 then (yaw.j2 k x0 x1 x7 x8 (rd x0 (wrap64 (x1+x8))) (decide ((rd x0 (wrap64 (x1+x8))) > 1))) else (yaw.j2 k x0 x1 x7 x8 (rd x0 (wrap64 (x1+x8))) false)) else (none)) else (none))
def yaw.j2:Nat→List Int→Int→Int→Int→Int→Bool→Option (Int×Int×Int)
 | 0,_,_,_,_,_,_=>none
 | k+1,x0,x1,x7,x8,x9,x37=>if x37=true then (some (0,0,20)) else (if 0≤(IntKind.u64.wrap (wrap64 (7*x8))) then (if x9≥128 then (yaw.l0 k x0 x1 (Go.bits .or .u64 x7 (shl .u64 (IntKind.u64.wrap (Go.bits .and .u8 x9 127)) (IntKind.u64.wrap (wrap64 (7*x8))))) (wrap64 (x8+1))) else (if x9=0 then (if x8 > 0 then (some (0,0,5)) else (some (Go.bits .or .u64 x7 (shl .u64 (IntKind.u64.wrap (Go.bits .and .u8 x9 127)) (IntKind.u64.wrap (wrap64 (7*x8)))),wrap64 ((wrap64 (x1+x8))+1),0))) else (some (Go.bits .or .u64 x7 (shl .u64 (IntKind.u64.wrap (Go.bits .and .u8 x9 127)) (IntKind.u64.wrap (wrap64 (7*x8)))),wrap64 ((wrap64 (x1+x8))+1),0)))) else (none))
end
def yaw.f (k:Nat) (l0:List Int) (a1:Int):Option (Int×Int×Int):=if a1<0 then (yaw.j0 k l0 a1 true) else (yaw.j0 k l0 a1 (decide (a1 > (l0.length:Int))))
theorem yaw.mono_l:∀ k,(∀ y0 y1 y2,LeO (yaw.j0 k y0 y1 y2) (yaw.j0 (k+1) y0 y1 y2))∧(∀ y0 y1 y2 y3,LeO (yaw.l0 k y0 y1 y2 y3) (yaw.l0 (k+1) y0 y1 y2 y3))∧(∀ y0 y1 y2 y3 y4 y5,LeO (yaw.j2 k y0 y1 y2 y3 y4 y5) (yaw.j2 (k+1) y0 y1 y2 y3 y4 y5))
 | 0=>⟨fun _ _ _ r h=>by simp [yaw.j0] at h,fun _ _ _ _ r h=>by simp [yaw.l0] at h,fun _ _ _ _ _ _ r h=>by simp [yaw.j2] at h⟩
 | k+1=>by
  obtain⟨ih0,ih1,ih2⟩:=yaw.mono_l k
  refine⟨?_,?_,?_⟩
  ·intro y0 y1 y2
   unfold yaw.j0
   repeat' first
   | (with_reducible exact ih0 _ _ _)
   | (with_reducible exact ih1 _ _ _ _)
   | (with_reducible exact ih2 _ _ _ _ _ _)
   | (with_reducible exact LeO.refl _)
   | (with_reducible exact LeO.none _)
   | (with_reducible refine LeO.ite ?_ ?_)
   | (with_reducible refine LeO.bind ?_ (fun _=>?_))
  ·intro y0 y1 y2 y3
   unfold yaw.l0
   repeat' first
   | (with_reducible exact ih0 _ _ _)
   | (with_reducible exact ih1 _ _ _ _)
   | (with_reducible exact ih2 _ _ _ _ _ _)
   | (with_reducible exact LeO.refl _)
   | (with_reducible exact LeO.none _)
   | (with_reducible refine LeO.ite ?_ ?_)
   | (with_reducible refine LeO.bind ?_ (fun _=>?_))
  ·intro y0 y1 y2 y3 y4 y5
   unfold yaw.j2
   repeat' first
   | (with_reducible exact ih0 _ _ _)
   | (with_reducible exact ih1 _ _ _ _)
   | (with_reducible exact ih2 _ _ _ _ _ _)
   | (with_reducible exact LeO.refl _)
   | (with_reducible exact LeO.none _)
   | (with_reducible refine LeO.ite ?_ ?_)
   | (with_reducible refine LeO.bind ?_ (fun _=>?_))
theorem yaw.mono:∀ a0 a1 k,LeO (yaw.f k a0 a1) (yaw.f (k+1) a0 a1):=by
 intro a0 a1 k
 obtain⟨ih0,ih1,ih2⟩:=yaw.mono_l k
 unfold yaw.f
 repeat' first
   | (with_reducible exact ih0 _ _ _)
   | (with_reducible exact ih1 _ _ _ _)
   | (with_reducible exact ih2 _ _ _ _ _ _)
   | (with_reducible exact LeO.refl _)
   | (with_reducible exact LeO.none _)
   | (with_reducible refine LeO.ite ?_ ?_)
   | (with_reducible refine LeO.bind ?_ (fun _=>?_))
theorem yaw.calls (k:Nat) (A0:Option Addr) (c0:Nat) (l0:List Int) (a1:Int) (r1:Int) (r2:Int) (r3:Int) (w:World) (hr0:Kd.C (Kd.int .u8) w A0 l0.length l0) (hc0:l0.length≤c0) (h:yaw.f k l0 a1=some (r1,r2,r3)) :
  Calls Tryz.prog 39 #[.slice A0 l0.length c0,.int .i64 a1] w fun e w'=>e=.returned (.tuple #[.int .u64 r1,.int .i64 r2,.int .i64 r3])∧yap w w':=by
 have HR0:=yaa.mk hr0
 have HC0:=yaa.mk hc0
 clear hr0 hc0
 have H:(if a1<0 then (yaw.j0 k l0 a1 true) else (yaw.j0 k l0 a1 (decide (a1 > (l0.length:Int)))))=some (r1,r2,r3):=h
 clear h
 have HC3:=yaa.mk H
 clear H
 go_enter Tryz.func39,Tryz.ntmps39
 go_upto_region 1 with (fail)
 go_cut [17] (fun v17 wc=>∃ (kq:Nat) (x17_2:Bool),v17=.bool x17_2∧yaa (yaw.j0 kq l0 a1 x17_2=some (r1,r2,r3))∧yaa (kq≤k)∧yap w wc)
 case first =>
  have H:=HC3.out
  clear HC3
  by_cases c4:a1<0
  ·rw[if_pos c4] at H
   have c4b0:=decide_eq_true c4
   clear c4
   (first|rw[c4b0]|(simp only[ybz,ycs];rw[c4b0])|skip)
   have H':=yaa.mk H
   clear H
   go_wp2
   go_meet
   case rel=>exact⟨_,(true),zF,H',⟨by first|omega|exact Nat.le_refl _⟩,zD⟩
  ·rw[if_neg c4] at H
   have c4b0:=decide_eq_false c4
   clear c4
   (first|rw[c4b0]|(simp only[ybz,ycs];rw[c4b0])|skip)
   have H':=yaa.mk H
   clear H
   go_wp2
   go_meet
   case rel=>exact⟨_,(decide (a1 > (l0.length:Int))),zF,H',⟨by first|omega|exact Nat.le_refl _⟩,zD⟩
 case rest =>
  clear HC3
  try clear p2
  try clear c3
  try clear c4
  try clear c4b0
  obtain⟨kq,x17_2,rfl,HA,HJ2,⟨mc2,rfl⟩⟩:=hcut
  cases kq with
  | zero=>exact absurd HA.out (by simp [yaw.j0])
  | succ kj2 =>
   have H:=HA.out
   clear HA
   simp only[yaw.j0] at H
   by_cases c5:x17_2=true
   ·subst c5
    have H1:(some (0,0,1))=some (r1,r2,r3):=by rw[if_pos rfl] at H;exact H
    clear H
    have H:=H1
    clear H1
    simp only[Option.some.injEq,Prod.mk.injEq] at H
    obtain⟨rfl,rfl,rfl⟩:=H
    go_wp2
    go_ret3
    exact⟨zF,zD⟩
   ·replace c5:=Bool.eq_false_iff.mpr c5
    subst c5
    have H1:(yaw.l0 kj2 l0 a1 0 0)=some (r1,r2,r3):=by rw[if_neg (show ¬ (false=true) by decide)] at H;exact H
    clear H
    have H:=H1
    clear H1
    have H':=yaa.mk H
    clear H
    go_wp2
    go_loopg [7,8] kj2 (fun kq v7 v8 w'=>∃ (x7_2:Int) (x8_2:Int),v7=.int .u64 x7_2∧v8=.int .i64 x8_2∧yaa (yaw.l0 kq l0 a1 x7_2 x8_2=some (r1,r2,r3))∧yaa (kq≤kj2)∧yap w w')
    case atStart=>exact⟨(0),(0),zF,zF,H',⟨Nat.le_refl _⟩,zD⟩
    case round =>
     clear H'
     try clear c2
     try clear p2
     try clear c3
     try clear c4
     try clear c4b0
     try clear c5
     try clear p2
     obtain⟨x7_2,x8_2,rfl,rfl,HA,HK2,⟨m2,rfl⟩⟩:=hrel
     cases gk with
     | zero=>exact absurd HA.out (by simp [yaw.l0])
     | succ k2 =>
      have H:=HA.out
      clear HA
      simp only[yaw.l0] at H
      by_cases c6:x8_2≥(wrap64 ((l0.length:Int)-a1))
      ·rw[if_pos c6] at H
       have c6b0:decide ((wrap64 ((l0.length:Int)-a1))≤x8_2)=true:=decide_eq_true c6
       clear c6
       simp only[Option.some.injEq,Prod.mk.injEq] at H
       obtain⟨rfl,rfl,rfl⟩:=H
       go_wp2
       go_ret3
       exact⟨zF,zD⟩
      ·rw[if_neg c6] at H
       have c6b0:decide ((wrap64 ((l0.length:Int)-a1))≤x8_2)=false:=decide_eq_false c6
       clear c6
       obtain⟨ji7,hji7⟩:∃ j_:Int,(wrap64 (a1+x8_2))=j_:=⟨_,rfl⟩
       replace H:(if 0≤(ji7) then (if (ji7)<(l0.length:Int) then (if x8_2=9 then (yaw.j2 k2 l0 a1 x7_2 x8_2 (rd l0 (ji7)) (decide ((rd l0 (ji7)) > 1))) else (yaw.j2 k2 l0 a1 x7_2 x8_2 (rd l0 (ji7)) false)) else (none)) else (none))=some (r1,r2,r3):=by first|(rw[hji7] at H;exact H)|(simp only[hji7] at H ⊢;exact H)
       have hji7w:(IntKind.i64.wrap (a1+x8_2))=ji7:=(ybz _).trans hji7
       by_cases c8:0≤(ji7)
       ·rw[if_pos c8] at H
        have c8b0:=decide_eq_true c8
        clear c8
        by_cases c9:(ji7)<(l0.length:Int)
        ·rw[if_pos c9] at H
         have c9b0:=decide_eq_true c9
         clear c9
         have HC10:=yaa.mk H
         clear H
         have p437:0≤((ji7):Int):=of_decide_eq_true zA
         have q437:(ji7)<(l0.length:Int):=of_decide_eq_true zA
         obtain⟨ad437,e437,hx437_0⟩:=Kd.at_int HR0.out (ji7) p437 q437
         cases e437
         replace p437:=eq_true p437
         replace q437:=eq_true q437
         go_upto_region 9 with (fail)
         go_cut [37] (fun v37 wc=>∃ (kq:Nat) (x37_9:Bool),v37=.bool x37_9∧yaa (yaw.j2 kq l0 a1 x7_2 x8_2 (rd l0 (ji7)) x37_9=some (r1,r2,r3))∧yaa (kq≤k2)∧yap w wc)
         case first =>
          have H:=HC10.out
          clear HC10
          by_cases c11:x8_2=9
          ·rw[if_pos c11] at H
           have c11b0:(x8_2 == 9)=true:=beq_iff_eq.mpr c11
           have c11b1:(x8_2 != 9)=false:=bne_eq_false_iff_eq.mpr c11
           clear c11
           (first|rw[c11b0]|(simp only[ybz,ycs];rw[c11b0])|skip)
           have H':=yaa.mk H
           clear H
           go_wp2
           go_meet
           case rel=>exact⟨_,(decide ((rd l0 (ji7)) > 1)),(by first|rfl|(simp;done)|(simp only[← hji7] <;> (first|rfl|simp))|(simp [*];done)),H',⟨by have:=HJ2.out;have:=HK2.out;first|omega|exact Nat.le_refl _⟩,zD⟩
          ·rw[if_neg c11] at H
           have c11b0:(x8_2 == 9)=false:=beq_eq_false_iff_ne.mpr c11
           have c11b1:(x8_2 != 9)=true:=bne_iff_ne.mpr c11
           (first|rw[c11b0]|(simp only[ybz,ycs];rw[c11b0])|skip)
           have H':=yaa.mk H
           clear H
           go_wp2
           go_meet
           case rel=>exact⟨_,(false),zF,H',⟨by have:=HJ2.out;have:=HK2.out;first|omega|exact Nat.le_refl _⟩,zD⟩
         case rest =>
          clear HC10
          try clear c1
          try clear c2
          try clear p2
          try clear c3
          try clear c4
          try clear c4b0
          try clear p4
          try clear q4
          try clear hx4
          try clear c5
          try clear c6
          try clear c6b0
          try clear p6
          try clear c8
          try clear c8b0
          try clear c9
          try clear c9b0
          try clear c11
          try clear c11b0
          try clear c11b1
          try clear hx437_0
          try clear p2
          try clear p437
          try clear q437
          obtain⟨kq,x37_9,rfl,HA,HJ9,⟨mc9,rfl⟩⟩:=hcut
          cases kq with
          | zero=>exact absurd HA.out (by simp [yaw.j2])
          | succ kj9 =>
           have H:=HA.out
           clear HA
           simp only[yaw.j2] at H
           by_cases c12:x37_9=true
           ·subst c12
            have H1:(some (0,0,20))=some (r1,r2,r3):=by rw[if_pos rfl] at H;exact H
            clear H
            have H:=H1
            clear H1
            simp only[Option.some.injEq,Prod.mk.injEq] at H
            obtain⟨rfl,rfl,rfl⟩:=H
            go_wp2
            go_ret3
            exact⟨by first|rfl|(simp;done)|(simp only[← hji7] <;> (first|rfl|simp))|(simp [*];done),zD⟩
           ·replace c12:=Bool.eq_false_iff.mpr c12
            subst c12
            have H1:(if 0≤(IntKind.u64.wrap (wrap64 (7*x8_2))) then (if (rd l0 (ji7))≥128 then (yaw.l0 kj9 l0 a1 (Go.bits .or .u64 x7_2 (shl .u64 (IntKind.u64.wrap (Go.bits .and .u8 (rd l0 (ji7)) 127)) (IntKind.u64.wrap (wrap64 (7*x8_2))))) (wrap64 (x8_2+1))) else (if (rd l0 (ji7))=0 then (if x8_2 > 0 then (some (0,0,5)) else (some (Go.bits .or .u64 x7_2 (shl .u64 (IntKind.u64.wrap (Go.bits .and .u8 (rd l0 (ji7)) 127)) (IntKind.u64.wrap (wrap64 (7*x8_2)))),wrap64 ((wrap64 (a1+x8_2))+1),0))) else (some (Go.bits .or .u64 x7_2 (shl .u64 (IntKind.u64.wrap (Go.bits .and .u8 (rd l0 (ji7)) 127)) (IntKind.u64.wrap (wrap64 (7*x8_2)))),wrap64 ((wrap64 (a1+x8_2))+1),0)))) else (none))=some (r1,r2,r3):=by rw[if_neg (show ¬ (false=true) by decide)] at H;exact H
            clear H
            have H:=H1
            clear H1
            obtain⟨ji13,hji13⟩:∃ j_:Int,(IntKind.u64.wrap (wrap64 (7*x8_2)))=j_:=⟨_,rfl⟩
            replace H:(if 0≤(ji13) then (if (rd l0 (ji7))≥128 then (yaw.l0 kj9 l0 a1 (Go.bits .or .u64 x7_2 (shl .u64 (IntKind.u64.wrap (Go.bits .and .u8 (rd l0 (ji7)) 127)) (ji13))) (wrap64 (x8_2+1))) else (if (rd l0 (ji7))=0 then (if x8_2 > 0 then (some (0,0,5)) else (some (Go.bits .or .u64 x7_2 (shl .u64 (IntKind.u64.wrap (Go.bits .and .u8 (rd l0 (ji7)) 127)) (ji13)),wrap64 ((wrap64 (a1+x8_2))+1),0))) else (some (Go.bits .or .u64 x7_2 (shl .u64 (IntKind.u64.wrap (Go.bits .and .u8 (rd l0 (ji7)) 127)) (ji13)),wrap64 ((wrap64 (a1+x8_2))+1),0)))) else (none))=some (r1,r2,r3):=by first|(rw[hji13] at H;exact H)|(simp only[hji13] at H ⊢;exact H)
            by_cases c14:0≤(ji13)
            ·rw[if_pos c14] at H
             have c14b0:=eq_true c14
             have c14b1:=decide_eq_true c14
             clear c14
             obtain⟨ji15,hji15⟩:∃ j_:Int,(shl .u64 (IntKind.u64.wrap (Go.bits .and .u8 (rd l0 (ji7)) 127)) (ji13))=j_:=⟨_,rfl⟩
             replace H:(if (rd l0 (ji7))≥128 then (yaw.l0 kj9 l0 a1 (Go.bits .or .u64 x7_2 (ji15)) (wrap64 (x8_2+1))) else (if (rd l0 (ji7))=0 then (if x8_2 > 0 then (some (0,0,5)) else (some (Go.bits .or .u64 x7_2 (ji15),wrap64 ((wrap64 (a1+x8_2))+1),0))) else (some (Go.bits .or .u64 x7_2 (ji15),wrap64 ((wrap64 (a1+x8_2))+1),0))))=some (r1,r2,r3):=by first|(rw[hji15] at H;exact H)|(simp only[hji15] at H ⊢;exact H)
             have hji15_:(IntKind.u64.wrap ((IntKind.u64.wrap (Go.bits .and .u8 (rd l0 (ji7)) 127))*2^min (ji13).toNat 64))=ji15:=hji15
             have hji15z:(ji13)≤64→(IntKind.u64.wrap ((IntKind.u64.wrap (Go.bits .and .u8 (rd l0 (ji7)) 127))*2^(ji13).toNat))=ji15:=yhc hji15
             by_cases c16:(rd l0 (ji7))≥128
             ·rw[if_pos c16] at H
              have c16b0:decide (128≤(rd l0 (ji7)))=true:=decide_eq_true c16
              clear c16
              have H':=yaa.mk H
              clear H
              go_wp2
              go_roundg kj9
              case measure=>have:=HJ2.out;have:=HK2.out;have:=HJ9.out;omega
              case rel=>exact⟨(Go.bits .or .u64 x7_2 (ji15)),(wrap64 (x8_2+1)),(by first|rfl|(simp;done)|(simp only[← hji15] <;> (first|rfl|simp))|(simp [*];done)),zF,H',⟨by have:=HJ2.out;have:=HK2.out;have:=HJ9.out;omega⟩,zD⟩
             ·rw[if_neg c16] at H
              have c16b0:decide (128≤(rd l0 (ji7)))=false:=decide_eq_false c16
              clear c16
              by_cases c17:(rd l0 (ji7))=0
              ·rw[if_pos c17] at H
               have c17b0:((rd l0 (ji7)) == 0)=true:=beq_iff_eq.mpr c17
               have c17b1:((rd l0 (ji7)) != 0)=false:=bne_eq_false_iff_eq.mpr c17
               clear c17
               by_cases c18:x8_2 > 0
               ·rw[if_pos c18] at H
                have c18b0:decide (0<x8_2)=true:=decide_eq_true c18
                clear c18
                simp only[Option.some.injEq,Prod.mk.injEq] at H
                obtain⟨rfl,rfl,rfl⟩:=H
                go_wp2
                go_ret3
                exact⟨by first|rfl|(simp;done)|(simp only[← hji7,← hji13,← hji15] <;> (first|rfl|simp))|(simp [*];done),zD⟩
               ·rw[if_neg c18] at H
                have c18b0:decide (0<x8_2)=false:=decide_eq_false c18
                clear c18
                simp only[Option.some.injEq,Prod.mk.injEq] at H
                obtain⟨rfl,rfl,rfl⟩:=H
                go_wp2
                go_ret3
                exact⟨by first|rfl|(simp;done)|(simp only[← hji7,← hji13,← hji15] <;> (first|rfl|simp))|(simp [*];done),zD⟩
              ·rw[if_neg c17] at H
               have c17b0:((rd l0 (ji7)) == 0)=false:=beq_eq_false_iff_ne.mpr c17
               have c17b1:((rd l0 (ji7)) != 0)=true:=bne_iff_ne.mpr c17
               simp only[Option.some.injEq,Prod.mk.injEq] at H
               obtain⟨rfl,rfl,rfl⟩:=H
               go_wp2
               go_ret3
               exact⟨by first|rfl|(simp;done)|(simp only[← hji7,← hji13,← hji15] <;> (first|rfl|simp))|(simp [*];done),zD⟩
            ·rw[if_neg c14] at H
             exact absurd H (by simp)
        ·rw[if_neg c9] at H
         exact absurd H (by simp)
       ·rw[if_neg c8] at H
        exact absurd H (by simp)
def yck.l0:Nat→List Int→Int→Int→Int→Int→Option (Int)
 | 0,_,_,_,_,_=>none
 | k+1,x0,x1,x2,x7,x8=>if x8<x2 then (if 0≤(x1 / 8) then (if (x1 / 8)<(x0.length:Int) then (if 0≤(IntKind.u64.wrap (Go.bits .and .i64 x1 7)) then (if 0≤(IntKind.u64.wrap (mn (wrap64 (8-(Go.bits .and .i64 x1 7))) (wrap64 (x2-x8)))) then (if 0≤(IntKind.u64.wrap (x8)) then (yck.l0 k x0 (wrap64 (x1+(mn (wrap64 (8-(Go.bits .and .i64 x1 7))) (wrap64 (x2-x8))))) x2 (Go.bits .or .u64 x7 (shl .u64 (Go.bits .and .u64 (IntKind.u64.wrap (shr .u8 (rd x0 (x1 / 8)) (IntKind.u64.wrap (Go.bits .and .i64 x1 7)))) (IntKind.u64.wrap ((shl .u64 1 (IntKind.u64.wrap (mn (wrap64 (8-(Go.bits .and .i64 x1 7))) (wrap64 (x2-x8)))))-1))) (IntKind.u64.wrap (x8)))) (wrap64 (x8+(mn (wrap64 (8-(Go.bits .and .i64 x1 7))) (wrap64 (x2-x8)))))) else (none)) else (none)) else (none)) else (none)) else (none)) else (some x7)
def yck.f (k:Nat) (l0:List Int) (a1:Int) (a2:Int):Option (Int):=yck.l0 k l0 a1 a2 0 0
theorem yck.calls (k:Nat) (A0:Option Addr) (c0:Nat) (l0:List Int) (a1:Int) (a2:Int) (r:Int) (w:World) (hr0:Kd.C (Kd.int .u8) w A0 l0.length l0) (hc0:l0.length≤c0) (h:yck.f k l0 a1 a2=some r) :
  Calls Tryz.prog 103 #[.slice A0 l0.length c0,.int .i64 a1,.int .i64 a2] w fun e w'=>e=.returned (.int .u64 r)∧Below w.heap.size w w':=by
 have HR0:=yaa.mk hr0
 have HC0:=yaa.mk hc0
 clear hr0 hc0
 have HB:=yaa.mk (Below.refl w.heap.size w)
 have H:(yck.l0 k l0 a1 a2 0 0)=some r:=h
 clear h
 have H':=yaa.mk H
 clear H
 go_enter Tryz.func103,Tryz.ntmps103
 go_wp2
 go_loopg [1,7,8] k (fun kq v1 v7 v8 w'=>∃ (x1_1:Int) (x7_1:Int) (x8_1:Int),v1=.int .i64 x1_1∧v7=.int .u64 x7_1∧v8=.int .i64 x8_1∧yaa (yck.l0 kq l0 x1_1 a2 x7_1 x8_1=some r)∧yaa (kq≤k)∧yaa (Below w.heap.size w w'))
 case atStart=>exact⟨(a1),(0),(0),zF,zF,zF,H',⟨Nat.le_refl _⟩,⟨zB⟩⟩
 case round =>
  clear H'
  try clear c1
  try clear p2
  obtain⟨x1_1,x7_1,x8_1,rfl,rfl,rfl,HA,HK1,HB⟩:=hrel
  cases gk with
  | zero=>exact absurd HA.out (by simp [yck.l0])
  | succ k1 =>
   have H:=HA.out
   clear HA
   simp only[yck.l0] at H
   by_cases c4:x8_1<a2
   ·rw[if_pos c4] at H
    have c4b0:=decide_eq_true c4
    clear c4
    obtain⟨ji5,hji5⟩:∃ j_:Int,(mn (wrap64 (8-(Go.bits .and .i64 x1_1 7))) (wrap64 (a2-x8_1)))=j_:=⟨_,rfl⟩
    replace H:(if 0≤(x1_1 / 8) then (if (x1_1 / 8)<(l0.length:Int) then (if 0≤(IntKind.u64.wrap (Go.bits .and .i64 x1_1 7)) then (if 0≤(IntKind.u64.wrap (ji5)) then (if 0≤(IntKind.u64.wrap (x8_1)) then (yck.l0 k1 l0 (wrap64 (x1_1+(ji5))) a2 (Go.bits .or .u64 x7_1 (shl .u64 (Go.bits .and .u64 (IntKind.u64.wrap (shr .u8 (rd l0 (x1_1 / 8)) (IntKind.u64.wrap (Go.bits .and .i64 x1_1 7)))) (IntKind.u64.wrap ((shl .u64 1 (IntKind.u64.wrap (ji5)))-1))) (IntKind.u64.wrap (x8_1)))) (wrap64 (x8_1+(ji5)))) else (none)) else (none)) else (none)) else (none)) else (none))=some r:=by first|(rw[hji5] at H;exact H)|(simp only[hji5] at H ⊢;exact H)
    have hji5_:(if (wrap64 (a2-x8_1))<(wrap64 (8-(Go.bits .and .i64 x1_1 7))) then (wrap64 (a2-x8_1)) else (wrap64 (8-(Go.bits .and .i64 x1_1 7))))=ji5:=hji5
    obtain⟨ji6,hji6⟩:∃ j_:Int,(x1_1 / 8)=j_:=⟨_,rfl⟩
    replace H:(if 0≤(ji6) then (if (ji6)<(l0.length:Int) then (if 0≤(IntKind.u64.wrap (Go.bits .and .i64 x1_1 7)) then (if 0≤(IntKind.u64.wrap (ji5)) then (if 0≤(IntKind.u64.wrap (x8_1)) then (yck.l0 k1 l0 (wrap64 (x1_1+(ji5))) a2 (Go.bits .or .u64 x7_1 (shl .u64 (Go.bits .and .u64 (IntKind.u64.wrap (shr .u8 (rd l0 (ji6)) (IntKind.u64.wrap (Go.bits .and .i64 x1_1 7)))) (IntKind.u64.wrap ((shl .u64 1 (IntKind.u64.wrap (ji5)))-1))) (IntKind.u64.wrap (x8_1)))) (wrap64 (x8_1+(ji5)))) else (none)) else (none)) else (none)) else (none)) else (none))=some r:=by first|(rw[hji6] at H;exact H)|(simp only[hji6] at H ⊢;exact H)
    by_cases c7:0≤(ji6)
    ·rw[if_pos c7] at H
     have c7b0:=decide_eq_true c7
     clear c7
     by_cases c8:(ji6)<(l0.length:Int)
     ·rw[if_pos c8] at H
      have c8b0:=decide_eq_true c8
      clear c8
      obtain⟨ji9,hji9⟩:∃ j_:Int,(IntKind.u64.wrap (Go.bits .and .i64 x1_1 7))=j_:=⟨_,rfl⟩
      replace H:(if 0≤(ji9) then (if 0≤(IntKind.u64.wrap (ji5)) then (if 0≤(IntKind.u64.wrap (x8_1)) then (yck.l0 k1 l0 (wrap64 (x1_1+(ji5))) a2 (Go.bits .or .u64 x7_1 (shl .u64 (Go.bits .and .u64 (IntKind.u64.wrap (shr .u8 (rd l0 (ji6)) (ji9))) (IntKind.u64.wrap ((shl .u64 1 (IntKind.u64.wrap (ji5)))-1))) (IntKind.u64.wrap (x8_1)))) (wrap64 (x8_1+(ji5)))) else (none)) else (none)) else (none))=some r:=by first|(rw[hji9] at H;exact H)|(simp only[hji9] at H ⊢;exact H)
      by_cases c10:0≤(ji9)
      ·rw[if_pos c10] at H
       have c10b0:=eq_true c10
       have c10b1:=decide_eq_true c10
       clear c10
       obtain⟨ji11,hji11⟩:∃ j_:Int,(shr .u8 (rd l0 (ji6)) (ji9))=j_:=⟨_,rfl⟩
       replace H:(if 0≤(IntKind.u64.wrap (ji5)) then (if 0≤(IntKind.u64.wrap (x8_1)) then (yck.l0 k1 l0 (wrap64 (x1_1+(ji5))) a2 (Go.bits .or .u64 x7_1 (shl .u64 (Go.bits .and .u64 (IntKind.u64.wrap (ji11)) (IntKind.u64.wrap ((shl .u64 1 (IntKind.u64.wrap (ji5)))-1))) (IntKind.u64.wrap (x8_1)))) (wrap64 (x8_1+(ji5)))) else (none)) else (none))=some r:=by first|(rw[hji11] at H;exact H)|(simp only[hji11] at H ⊢;exact H)
       have hji11_:((rd l0 (ji6)) / 2^min (ji9).toNat 8)=ji11:=hji11
       have hji11z:(ji9)≤8→((rd l0 (ji6)) / 2^(ji9).toNat)=ji11:=yj8 hji11
       obtain⟨ji12,hji12⟩:∃ j_:Int,(IntKind.u64.wrap (ji5))=j_:=⟨_,rfl⟩
       replace H:(if 0≤(ji12) then (if 0≤(IntKind.u64.wrap (x8_1)) then (yck.l0 k1 l0 (wrap64 (x1_1+(ji5))) a2 (Go.bits .or .u64 x7_1 (shl .u64 (Go.bits .and .u64 (IntKind.u64.wrap (ji11)) (IntKind.u64.wrap ((shl .u64 1 (ji12))-1))) (IntKind.u64.wrap (x8_1)))) (wrap64 (x8_1+(ji5)))) else (none)) else (none))=some r:=by first|(rw[hji12] at H;exact H)|(simp only[hji12] at H ⊢;exact H)
       by_cases c13:0≤(ji12)
       ·rw[if_pos c13] at H
        have c13b0:=eq_true c13
        have c13b1:=decide_eq_true c13
        clear c13
        obtain⟨ji14,hji14⟩:∃ j_:Int,(shl .u64 1 (ji12))=j_:=⟨_,rfl⟩
        replace H:(if 0≤(IntKind.u64.wrap (x8_1)) then (yck.l0 k1 l0 (wrap64 (x1_1+(ji5))) a2 (Go.bits .or .u64 x7_1 (shl .u64 (Go.bits .and .u64 (IntKind.u64.wrap (ji11)) (IntKind.u64.wrap ((ji14)-1))) (IntKind.u64.wrap (x8_1)))) (wrap64 (x8_1+(ji5)))) else (none))=some r:=by first|(rw[hji14] at H;exact H)|(simp only[hji14] at H ⊢;exact H)
        have hji14_:(IntKind.u64.wrap (1*2^min (ji12).toNat 64))=ji14:=hji14
        have hji14z:(ji12)≤64→(IntKind.u64.wrap (1*2^(ji12).toNat))=ji14:=yhc hji14
        have hji14u:(IntKind.u64.wrap (2^min (ji12).toNat 64))=ji14:=by have h_:=hji14_;rw[Int.one_mul] at h_;exact h_
        have hji14v:(ji12)≤64→(IntKind.u64.wrap (2^(ji12).toNat))=ji14:=fun hle_=>by have h_:=hji14z hle_;rw[Int.one_mul] at h_;exact h_
        obtain⟨ji15,hji15⟩:∃ j_:Int,(IntKind.u64.wrap (x8_1))=j_:=⟨_,rfl⟩
        replace H:(if 0≤(ji15) then (yck.l0 k1 l0 (wrap64 (x1_1+(ji5))) a2 (Go.bits .or .u64 x7_1 (shl .u64 (Go.bits .and .u64 (IntKind.u64.wrap (ji11)) (IntKind.u64.wrap ((ji14)-1))) (ji15))) (wrap64 (x8_1+(ji5)))) else (none))=some r:=by first|(rw[hji15] at H;exact H)|(simp only[hji15] at H ⊢;exact H)
        by_cases c16:0≤(ji15)
        ·rw[if_pos c16] at H
         have c16b0:=eq_true c16
         have c16b1:=decide_eq_true c16
         clear c16
         obtain⟨ji17,hji17⟩:∃ j_:Int,(shl .u64 (Go.bits .and .u64 (IntKind.u64.wrap (ji11)) (IntKind.u64.wrap ((ji14)-1))) (ji15))=j_:=⟨_,rfl⟩
         replace H:(yck.l0 k1 l0 (wrap64 (x1_1+(ji5))) a2 (Go.bits .or .u64 x7_1 (ji17)) (wrap64 (x8_1+(ji5))))=some r:=by first|(rw[hji17] at H;exact H)|(simp only[hji17] at H ⊢;exact H)
         have hji17_:(IntKind.u64.wrap ((Go.bits .and .u64 (IntKind.u64.wrap (ji11)) (IntKind.u64.wrap ((ji14)-1)))*2^min (ji15).toNat 64))=ji17:=hji17
         have hji17z:(ji15)≤64→(IntKind.u64.wrap ((Go.bits .and .u64 (IntKind.u64.wrap (ji11)) (IntKind.u64.wrap ((ji14)-1)))*2^(ji15).toNat))=ji17:=yhc hji17
         have H':=yaa.mk H
         clear H
         have p438:0≤((ji6):Int):=of_decide_eq_true zA
         have q438:(ji6)<(l0.length:Int):=of_decide_eq_true zA
         obtain⟨ad438,e438,hx438_0⟩:=Kd.at_int HR0.out (ji6) p438 q438
         cases e438
         replace hx438_0:=(HB.out.cell (World.block_lt_of_cell? w _ hx438_0)).trans hx438_0
         replace p438:=eq_true p438
         replace q438:=eq_true q438
         go_wp2
         go_roundg k1
         case measure=>have:=HK1.out;omega
         case rel=>exact⟨(wrap64 (x1_1+(ji5))),(Go.bits .or .u64 x7_1 (ji17)),(wrap64 (x8_1+(ji5))),(by first|rfl|(simp;done)|(simp only[← hji5] <;> (first|rfl|simp))|(simp [*];done)),(by first|rfl|(simp;done)|(simp only[← hji17] <;> (first|rfl|simp))|(simp [*];done)),(by first|rfl|(simp;done)|(simp only[← hji5] <;> (first|rfl|simp))|(simp [*];done)),H',⟨by have:=HK1.out;omega⟩,⟨zB⟩⟩
        ·rw[if_neg c16] at H
         exact absurd H (by simp)
       ·rw[if_neg c13] at H
        exact absurd H (by simp)
      ·rw[if_neg c10] at H
       exact absurd H (by simp)
     ·rw[if_neg c8] at H
      exact absurd H (by simp)
    ·rw[if_neg c7] at H
     exact absurd H (by simp)
   ·rw[if_neg c4] at H
    have c4b0:=decide_eq_false c4
    clear c4
    obtain rfl:=Option.some.inj H
    go_wp2
    go_ret
    exact⟨zG,zB⟩
mutual
def yav.j0:Nat→List Int→Int→Int→Bool→Option (List Int×Int)
 | 0,_,_,_,_=>none
 | k+1,x0,x1,x2,x11=>if x11=true then (some (([]:List Int),1)) else ((ydg.f x1 x2).bind fun t440=>(if (x0.length:Int)<t440 then (some (([]:List Int),2)) else ((ydg.f x1 x2).bind fun t441=>(if (x0.length:Int) > t441 then (some (([]:List Int),3)) else (if (wrap64 ((wrap64 ((x0.length:Int)*8))-(wrap64 (x1*x2)))) > 0 then (if 0≤(wrap64 ((x0.length:Int)-1)) then (if (wrap64 ((x0.length:Int)-1))<(x0.length:Int) then (if 0≤(IntKind.u64.wrap (wrap64 (8-(wrap64 ((wrap64 ((x0.length:Int)*8))-(wrap64 (x1*x2))))))) then (yav.j1 k x0 x1 x2 ((shr .u8 (rd x0 (wrap64 ((x0.length:Int)-1))) (IntKind.u64.wrap (wrap64 (8-(wrap64 ((wrap64 ((x0.length:Int)*8))-(wrap64 (x1*x2)))))))) != 0)) else (none)) else (none)) else (none)) else (yav.j1 k x0 x1 x2 false))))))
def yav.j1:Nat→List Int→Int→Int→Bool→Option (List Int×Int)
 | 0,_,_,_,_=>none
 | k+1,x0,x1,x2,x57=>if x57=true then (some (([]:List Int),5)) else (if 0≤x2 then (if (x2:Int).toNat≤35184372088832 then (yav.l0 k x0 x1 (List.replicate (x2:Int).toNat 0) x2 0) else (none)) else (none))
def yav.l0:Nat→List Int→Int→List Int→Int→Int→Option (List Int×Int)
 | 0,_,_,_,_,_=>none
 | k+1,x0,x1,x9,x60,x61=>if x61<x60 then ((yck.f k x0 (wrap64 (x61*x1)) x1).bind fun t446=>(if 0≤x61 then (if x61<(x9.length:Int) then (yav.l0 k x0 x1 (x9.set (x61:Int).toNat t446) x60 (wrap64 (x61+1))) else (none)) else (none))) else (some (x9,0))
end
def yav.f (k:Nat) (l0:List Int) (a1:Int) (a2:Int):Option (List Int×Int):=(yc2.f a1).bind fun t439=>(if t439=true then (yav.j0 k l0 a1 a2 true) else (if a2<0 then (yav.j0 k l0 a1 a2 true) else (yav.j0 k l0 a1 a2 (decide (a2 > 4096)))))
theorem yav.calls (k:Nat) (A0:Option Addr) (c0:Nat) (l0:List Int) (a1:Int) (a2:Int) (r1:List Int) (r2:Int) (w:World) (hr0:Kd.C (Kd.int .u8) w A0 l0.length l0) (hc0:l0.length≤c0) (h:yav.f k l0 a1 a2=some (r1,r2)) :
  Calls Tryz.prog 63 #[.slice A0 l0.length c0,.int .i64 a1,.int .i64 a2] w fun e w'=>∃ v0_:Value,e=.returned (.tuple #[v0_,.int .i64 r2])∧Kd.R (Kd.int .u64) 63 w' w.heap.size (fun _=>True) v0_ r1∧Below w.heap.size w w':=by
 have HR0:=yaa.mk hr0
 have HC0:=yaa.mk hc0
 clear hr0 hc0
 have HB:=yaa.mk (Below.refl w.heap.size w)
 have H:((yc2.f a1).bind fun t439=>(if t439=true then (yav.j0 k l0 a1 a2 true) else (if a2<0 then (yav.j0 k l0 a1 a2 true) else (yav.j0 k l0 a1 a2 (decide (a2 > 4096))))))=some (r1,r2):=h
 clear h
 have HC4:=yaa.mk H
 clear H
 go_enter Tryz.func63,Tryz.ntmps63
 go_upto_region 1 with (fail)
 go_cut [11] (fun v11 wc=>∃ (kq:Nat) (x11_3:Bool),v11=.bool x11_3∧yaa (yav.j0 kq l0 a1 a2 x11_3=some (r1,r2))∧yaa (kq≤k)∧yaa (Below w.heap.size w wc))
 case first =>
  have H:=HC4.out
  clear HC4
  replace H:=Option.bind_eq_some_iff.mp H
  obtain⟨t439,A50,H⟩:=H
  try dsimp only at H
  have A5:=yaa.mk A50
  clear A50
  by_cases c6:t439=true
  ·subst c6
   have H1:(yav.j0 k l0 a1 a2 true)=some (r1,r2):=by rw[if_pos rfl] at H;exact H
   clear H
   have H:=H1
   clear H1
   have H':=yaa.mk H
   clear H
   go_wp2_with (first|((with_reducible refine yad (f:=101) rfl ?_);refine yak (some 13) rfl rfl Tryz.func101 (by kernel_rfl) rfl #[.int .i64 a1] rfl zE ?_;(with_reducible refine(yc2.calls a1 true _ A5.out).mono ?_);rintro e w' ⟨rfl,⟨nd,rfl⟩⟩;refine⟨_,rfl,?_⟩))
   go_meet
   case rel=>exact⟨_,(true),zF,H',⟨by first|omega|exact Nat.le_refl _⟩,⟨zB⟩⟩
  ·replace c6:=Bool.eq_false_iff.mpr c6
   subst c6
   have H1:(if a2<0 then (yav.j0 k l0 a1 a2 true) else (yav.j0 k l0 a1 a2 (decide (a2 > 4096))))=some (r1,r2):=by rw[if_neg (show ¬ (false=true) by decide)] at H;exact H
   clear H
   have H:=H1
   clear H1
   by_cases c7:a2<0
   ·rw[if_pos c7] at H
    have c7b0:=decide_eq_true c7
    clear c7
    (first|rw[c7b0]|(simp only[ybz,ycs];rw[c7b0])|skip)
    have H':=yaa.mk H
    clear H
    go_wp2_with (first|((with_reducible refine yad (f:=101) rfl ?_);refine yak (some 13) rfl rfl Tryz.func101 (by kernel_rfl) rfl #[.int .i64 a1] rfl zE ?_;(with_reducible refine(yc2.calls a1 false _ A5.out).mono ?_);rintro e w' ⟨rfl,⟨nd,rfl⟩⟩;refine⟨_,rfl,?_⟩))
    go_meet
    case rel=>exact⟨_,(true),zF,H',⟨by first|omega|exact Nat.le_refl _⟩,⟨zB⟩⟩
   ·rw[if_neg c7] at H
    have c7b0:=decide_eq_false c7
    clear c7
    (first|rw[c7b0]|(simp only[ybz,ycs];rw[c7b0])|skip)
    have H':=yaa.mk H
    clear H
    go_wp2_with (first|((with_reducible refine yad (f:=101) rfl ?_);refine yak (some 13) rfl rfl Tryz.func101 (by kernel_rfl) rfl #[.int .i64 a1] rfl zE ?_;(with_reducible refine(yc2.calls a1 false _ A5.out).mono ?_);rintro e w' ⟨rfl,⟨nd,rfl⟩⟩;refine⟨_,rfl,?_⟩))
    go_meet
    case rel=>exact⟨_,(decide (a2 > 4096)),zF,H',⟨by first|omega|exact Nat.le_refl _⟩,⟨zB⟩⟩
 case rest =>
  clear HC4
  try clear c1
  try clear p2
  try clear c6
  try clear c7
  try clear c7b0
  obtain⟨kq,x11_3,rfl,HA,HJ3,HB⟩:=hcut
  cases kq with
  | zero=>exact absurd HA.out (by simp [yav.j0])
  | succ kj3 =>
   have H:=HA.out
   clear HA
   simp only[yav.j0] at H
   by_cases c8:x11_3=true
   ·subst c8
    have H1:(some (([]:List Int),1))=some (r1,r2):=by rw[if_pos rfl] at H;exact H
    clear H
    have H:=H1
    clear H1
    simp only[Option.some.injEq,Prod.mk.injEq] at H
    obtain⟨rfl,rfl⟩:=H
    go_wp2
    go_ret2
    exact⟨_,zG,zN,zB⟩
   ·replace c8:=Bool.eq_false_iff.mpr c8
    subst c8
    have H1:((ydg.f a1 a2).bind fun t440=>(if (l0.length:Int)<t440 then (some (([]:List Int),2)) else ((ydg.f a1 a2).bind fun t441=>(if (l0.length:Int) > t441 then (some (([]:List Int),3)) else (if (wrap64 ((wrap64 ((l0.length:Int)*8))-(wrap64 (a1*a2)))) > 0 then (if 0≤(wrap64 ((l0.length:Int)-1)) then (if (wrap64 ((l0.length:Int)-1))<(l0.length:Int) then (if 0≤(IntKind.u64.wrap (wrap64 (8-(wrap64 ((wrap64 ((l0.length:Int)*8))-(wrap64 (a1*a2))))))) then (yav.j1 kj3 l0 a1 a2 ((shr .u8 (rd l0 (wrap64 ((l0.length:Int)-1))) (IntKind.u64.wrap (wrap64 (8-(wrap64 ((wrap64 ((l0.length:Int)*8))-(wrap64 (a1*a2)))))))) != 0)) else (none)) else (none)) else (none)) else (yav.j1 kj3 l0 a1 a2 false))))))=some (r1,r2):=by rw[if_neg (show ¬ (false=true) by decide)] at H;exact H
    clear H
    have H:=H1
    clear H1
    replace H:=Option.bind_eq_some_iff.mp H
    obtain⟨t440,A90,H⟩:=H
    try dsimp only at H
    have A9:=yaa.mk A90
    clear A90
    by_cases c10:(l0.length:Int)<t440
    ·rw[if_pos c10] at H
     have c10b0:=decide_eq_true c10
     clear c10
     simp only[Option.some.injEq,Prod.mk.injEq] at H
     obtain⟨rfl,rfl⟩:=H
     go_wp2_with (first|((with_reducible refine yad (f:=102) rfl ?_);refine yak (some 27) rfl rfl Tryz.func102 (by kernel_rfl) rfl #[.int .i64 a1,.int .i64 a2] rfl zE ?_;(with_reducible refine(ydg.calls a1 a2 t440 _ A9.out).mono ?_);rintro e w' ⟨rfl,⟨nd,rfl⟩⟩;refine⟨_,rfl,?_⟩))
     go_ret2
     exact⟨_,zG,zN,zB⟩
    ·rw[if_neg c10] at H
     have c10b0:=decide_eq_false c10
     clear c10
     replace H:=Option.bind_eq_some_iff.mp H
     obtain⟨t441,A110,H⟩:=H
     try dsimp only at H
     have A11:=yaa.mk A110
     clear A110
     by_cases c12:(l0.length:Int) > t441
     ·rw[if_pos c12] at H
      have c12b0:decide (t441<(l0.length:Int))=true:=decide_eq_true c12
      clear c12
      simp only[Option.some.injEq,Prod.mk.injEq] at H
      obtain⟨rfl,rfl⟩:=H
      go_wp2_with (first|((with_reducible refine yad (f:=102) rfl ?_);refine yak (some 27) rfl rfl Tryz.func102 (by kernel_rfl) rfl #[.int .i64 a1,.int .i64 a2] rfl zE ?_;(with_reducible refine(ydg.calls a1 a2 t440 _ A9.out).mono ?_);rintro e w' ⟨rfl,⟨nd,rfl⟩⟩;refine⟨_,rfl,?_⟩)|((with_reducible refine yad (f:=102) rfl ?_);refine yak (some 34) rfl rfl Tryz.func102 (by kernel_rfl) rfl #[.int .i64 a1,.int .i64 a2] rfl zE ?_;(with_reducible refine(ydg.calls a1 a2 t441 _ A11.out).mono ?_);rintro e w' ⟨rfl,⟨nd,rfl⟩⟩;refine⟨_,rfl,?_⟩))
      go_ret2
      exact⟨_,zG,zN,zB⟩
     ·rw[if_neg c12] at H
      have c12b0:decide (t441<(l0.length:Int))=false:=decide_eq_false c12
      clear c12
      have HC13:=yaa.mk H
      clear H
      go_upto_region 8 with (first|((with_reducible refine yad (f:=102) rfl ?_);refine yak (some 27) rfl rfl Tryz.func102 (by kernel_rfl) rfl #[.int .i64 a1,.int .i64 a2] rfl zE ?_;(with_reducible refine(ydg.calls a1 a2 t440 _ A9.out).mono ?_);rintro e w' ⟨rfl,⟨nd,rfl⟩⟩;refine⟨_,rfl,?_⟩)|((with_reducible refine yad (f:=102) rfl ?_);refine yak (some 34) rfl rfl Tryz.func102 (by kernel_rfl) rfl #[.int .i64 a1,.int .i64 a2] rfl zE ?_;(with_reducible refine(ydg.calls a1 a2 t441 _ A11.out).mono ?_);rintro e w' ⟨rfl,⟨nd,rfl⟩⟩;refine⟨_,rfl,?_⟩))
      (try simp only[Act.put,List.setIfInBounds_toArray,List.set_cons_zero,List.set_cons_succ])
      go_cut [57] (fun v57 wc=>∃ (kq:Nat) (x57_12:Bool),v57=.bool x57_12∧yaa (yav.j1 kq l0 a1 a2 x57_12=some (r1,r2))∧yaa (kq≤kj3)∧yaa (Below w.heap.size w wc))
      case first =>
       have H:=HC13.out
       clear HC13
       by_cases c14:(wrap64 ((wrap64 ((l0.length:Int)*8))-(wrap64 (a1*a2)))) > 0
       ·rw[if_pos c14] at H
        have c14b0:decide (0<(wrap64 ((wrap64 ((l0.length:Int)*8))-(wrap64 (a1*a2)))))=true:=decide_eq_true c14
        clear c14
        (first|rw[c14b0]|(simp only[ybz,ycs];rw[c14b0])|skip)
        obtain⟨ji15,hji15⟩:∃ j_:Int,(wrap64 ((l0.length:Int)-1))=j_:=⟨_,rfl⟩
        replace H:(if 0≤(ji15) then (if (ji15)<(l0.length:Int) then (if 0≤(IntKind.u64.wrap (wrap64 (8-(wrap64 ((wrap64 ((l0.length:Int)*8))-(wrap64 (a1*a2))))))) then (yav.j1 kj3 l0 a1 a2 ((shr .u8 (rd l0 (ji15)) (IntKind.u64.wrap (wrap64 (8-(wrap64 ((wrap64 ((l0.length:Int)*8))-(wrap64 (a1*a2)))))))) != 0)) else (none)) else (none)) else (none))=some (r1,r2):=by first|(rw[hji15] at H;exact H)|(simp only[hji15] at H ⊢;exact H)
        have hji15w:(IntKind.i64.wrap ((l0.length:Int)-1))=ji15:=(ybz _).trans hji15
        by_cases c16:0≤(ji15)
        ·rw[if_pos c16] at H
         have c16b0:=decide_eq_true c16
         clear c16
         by_cases c17:(ji15)<(l0.length:Int)
         ·rw[if_pos c17] at H
          have c17b0:=decide_eq_true c17
          clear c17
          obtain⟨ji18,hji18⟩:∃ j_:Int,(IntKind.u64.wrap (wrap64 (8-(wrap64 ((wrap64 ((l0.length:Int)*8))-(wrap64 (a1*a2)))))))=j_:=⟨_,rfl⟩
          replace H:(if 0≤(ji18) then (yav.j1 kj3 l0 a1 a2 ((shr .u8 (rd l0 (ji15)) (ji18)) != 0)) else (none))=some (r1,r2):=by first|(rw[hji18] at H;exact H)|(simp only[hji18] at H ⊢;exact H)
          by_cases c19:0≤(ji18)
          ·rw[if_pos c19] at H
           have c19b0:=eq_true c19
           have c19b1:=decide_eq_true c19
           clear c19
           obtain⟨ji20,hji20⟩:∃ j_:Int,(shr .u8 (rd l0 (ji15)) (ji18))=j_:=⟨_,rfl⟩
           replace H:(yav.j1 kj3 l0 a1 a2 ((ji20) != 0))=some (r1,r2):=by first|(rw[hji20] at H;exact H)|(simp only[hji20] at H ⊢;exact H)
           have hji20_:((rd l0 (ji15)) / 2^min (ji18).toNat 8)=ji20:=hji20
           have hji20z:(ji18)≤8→((rd l0 (ji15)) / 2^(ji18).toNat)=ji20:=yj8 hji20
           have H':=yaa.mk H
           clear H
           have p442:0≤((ji15):Int):=of_decide_eq_true zA
           have q442:(ji15)<(l0.length:Int):=of_decide_eq_true zA
           obtain⟨ad442,e442,hx442_0⟩:=Kd.at_int HR0.out (ji15) p442 q442
           cases e442
           replace hx442_0:=(HB.out.cell (World.block_lt_of_cell? w _ hx442_0)).trans hx442_0
           replace p442:=eq_true p442
           replace q442:=eq_true q442
           go_wp2
           go_meet
           case rel=>exact⟨_,(((ji20) != 0)),(by first|rfl|(simp;done)|(simp only[← hji20] <;> (first|rfl|simp))|(simp [*];done)),H',⟨by have:=HJ3.out;first|omega|exact Nat.le_refl _⟩,⟨zB⟩⟩
          ·rw[if_neg c19] at H
           exact absurd H (by simp)
         ·rw[if_neg c17] at H
          exact absurd H (by simp)
        ·rw[if_neg c16] at H
         exact absurd H (by simp)
       ·rw[if_neg c14] at H
        have c14b0:decide (0<(wrap64 ((wrap64 ((l0.length:Int)*8))-(wrap64 (a1*a2)))))=false:=decide_eq_false c14
        clear c14
        (first|rw[c14b0]|(simp only[ybz,ycs];rw[c14b0])|skip)
        have H':=yaa.mk H
        clear H
        go_wp2
        go_meet
        case rel=>exact⟨_,(false),zF,H',⟨by have:=HJ3.out;first|omega|exact Nat.le_refl _⟩,⟨zB⟩⟩
      case rest =>
       clear HC13
       try clear c1
       try clear p2
       try clear p4
       try clear q4
       try clear hx4
       try clear c6
       try clear p6
       try clear c7
       try clear c7b0
       try clear c8
       try clear c10
       try clear c10b0
       try clear c12
       try clear c12b0
       try clear c14
       try clear c14b0
       try clear c16
       try clear c16b0
       try clear c17
       try clear c17b0
       try clear c19
       try clear c19b0
       try clear c19b1
       try clear hx442_0
       try clear p2
       try clear p442
       try clear q442
       obtain⟨kq,x57_12,rfl,HA,HJ12,HB⟩:=hcut
       cases kq with
       | zero=>exact absurd HA.out (by simp [yav.j1])
       | succ kj12 =>
        have H:=HA.out
        clear HA
        simp only[yav.j1] at H
        by_cases c21:x57_12=true
        ·subst c21
         have H1:(some (([]:List Int),5))=some (r1,r2):=by rw[if_pos rfl] at H;exact H
         clear H
         have H:=H1
         clear H1
         simp only[Option.some.injEq,Prod.mk.injEq] at H
         obtain⟨rfl,rfl⟩:=H
         go_wp2
         go_ret2
         exact⟨_,zG,zN,zB⟩
        ·replace c21:=Bool.eq_false_iff.mpr c21
         subst c21
         have H1:(if 0≤a2 then (if (a2:Int).toNat≤35184372088832 then (yav.l0 kj12 l0 a1 (List.replicate (a2:Int).toNat 0) a2 0) else (none)) else (none))=some (r1,r2):=by rw[if_neg (show ¬ (false=true) by decide)] at H;exact H
         clear H
         have H:=H1
         clear H1
         by_cases c22:0≤a2
         ·rw[if_pos c22] at H
          have c22b0:=eq_true c22
          have c22b1:=decide_eq_true c22
          clear c22
          by_cases c23:(a2:Int).toNat≤35184372088832
          ·rw[if_pos c23] at H
           have c23b0:=eq_true c23
           have c23b1:=decide_eq_true c23
           clear c23
           obtain⟨y443,hy443⟩:∃ y_:List Int,y_=(List.replicate (a2:Int).toNat 0):=⟨_,rfl⟩
           replace H:(yav.l0 kj12 l0 a1 y443 a2 0)=some (r1,r2):=by first|(rw[hy443];with_reducible exact H)|(have H2_:=(Option.bind_some _ _).symm.trans H;rw[hy443];with_reducible exact H2_)|(have H2_:=(Option.bind_some _ _).symm.trans H;with_reducible exact H2_)|with_reducible exact H|(rw[hy443];exact H)|exact H
           have Ny443:=yaa.mk hy443
           clear hy443
           have H':=yaa.mk H
           clear H
           go_wp2_with (first|((with_reducible refine yb1 (N:=59) rfl ?_);(try (refine ygw (by rfl) ?_;dsimp only));refine Kd.R_make (Kd.int .u64) _ 63 rfl (N:=59) rfl 66 _ _ rfl a2 rfl rfl Tryz.underlying66 (.int .u64 0) 8 yim rfl (by decide) (by omega) 0 (ok:=fun _=>True) (okp:=fun _=>True) rfl (fun _ hk=>hk) trivial (of_decide_eq_true zA) (Nat.le_trans (Nat.mul_le_mul_right _ (of_decide_eq_true zA:a2.toNat≤35184372088832)) (by omega)) (Below.refl _ _) (Nat.le_refl _) ?_;intro v444 w24 ho25 hb hg_ hnew_;clear hg_ hnew_;(first|rw[← Ny443.out] at ho25|(simp only[Int.reduceToNat] at ho25;rw[← Ny443.out] at ho25));have n0_:=yaa.mk (Kd.R_lower ho25 (yaf zB));have n1_:=yaa.mk (yai zB hb);clear HB;have HO445:=n0_;have HB:=n1_;clear n0_ n1_;clear hb ho25))
           go_loopg [61] kj12 (fun kq v61 w'=>∃ (x9_3:List Int) (x61_3:Int),v61=.int .i64 x61_3∧yaa (yav.l0 kq l0 a1 x9_3 a2 x61_3=some (r1,r2))∧yaa (kq≤kj12)∧yaa (Kd.R (Kd.int .u64) 63 w' w.heap.size (fun _=>True) v444 x9_3)∧yaa (Below w.heap.size w w'))
           case atStart=>exact⟨(y443),(0),zF,H',⟨Nat.le_refl _⟩,⟨zR HO445.out⟩,⟨zB⟩⟩
           case round =>
            clear H'
            try clear c1
            try clear c2
            try clear p2
            try clear p4
            try clear q4
            try clear hx4
            try clear c6
            try clear p6
            try clear c7
            try clear c7b0
            try clear c8
            try clear c10
            try clear c10b0
            try clear c12
            try clear c12b0
            try clear c14
            try clear c14b0
            try clear c16
            try clear c16b0
            try clear c17
            try clear c17b0
            try clear c19
            try clear c19b0
            try clear c19b1
            try clear c21
            try clear c22
            try clear c22b0
            try clear c22b1
            try clear c23
            try clear c23b0
            try clear c23b1
            try clear hx442_0
            try clear p2
            try clear p4
            try clear p442
            try clear p6
            try clear q4
            try clear q442
            obtain⟨x9_3,x61_3,rfl,HA,HK3,HO_9,HB⟩:=hrel
            cases gk with
            | zero=>exact absurd HA.out (by simp [yav.l0])
            | succ k3 =>
             have H:=HA.out
             clear HA
             simp only[yav.l0] at H
             by_cases c26:x61_3<a2
             ·rw[if_pos c26] at H
              have c26b0:=decide_eq_true c26
              clear c26
              replace H:=Option.bind_eq_some_iff.mp H
              obtain⟨t446,A270,H⟩:=H
              try dsimp only at H
              have A27:=yaa.mk A270
              clear A270
              by_cases c28:0≤x61_3
              ·rw[if_pos c28] at H
               have c28b0:=decide_eq_true c28
               clear c28
               by_cases c29:x61_3<(x9_3.length:Int)
               ·rw[if_pos c29] at H
                have c29b0:=decide_eq_true c29
                clear c29
                obtain⟨y447,hy447⟩:∃ y_:List Int,y_=(x9_3.set (x61_3:Int).toNat t446):=⟨_,rfl⟩
                replace H:(yav.l0 k3 l0 a1 y447 a2 (wrap64 (x61_3+1)))=some (r1,r2):=by first|(rw[hy447];with_reducible exact H)|(have H2_:=(Option.bind_some _ _).symm.trans H;rw[hy447];with_reducible exact H2_)|(have H2_:=(Option.bind_some _ _).symm.trans H;with_reducible exact H2_)|with_reducible exact H|(rw[hy447];exact H)|exact H
                have Ny447:=yaa.mk hy447
                clear hy447
                have H':=yaa.mk H
                clear H
                go_wp2_with (first|((with_reducible refine yad (f:=103) rfl ?_);refine yak (some 71) rfl rfl Tryz.func103 (by kernel_rfl) rfl #[.slice A0 l0.length c0,.int .i64 (wrap64 (x61_3*a1)),.int .i64 a1] rfl zE ?_;(with_reducible refine(yck.calls k3 _ _ l0 (wrap64 (x61_3*a1)) a1 t446 _ ?side1 ?side2 A27.out).mono ?_);(case side1=>exact zC (Kd.C_below HR0.out HB.out));(case side2=>exact HC0.out);rintro e w31 ⟨rfl,hb⟩;refine⟨_,rfl,?_⟩;have n0_:=yaa.mk (Kd.R_below (zR HO_9.out) hb);have n1_:=yaa.mk (yai zB hb);clear HO_9;clear HB;have HO_9:=n0_;have HB:=n1_;clear n0_ n1_;(try clear hb);(try clear hb2);(try clear hk);(try clear hi);have p30:0≤(x61_3:Int):=of_decide_eq_true zA;have q30:(x61_3:Int)<((x9_3.length:Int):Int):=of_decide_eq_true zA;obtain⟨go30,co30,eo30,gb30,gl30,cl30,HG30⟩:=Kd.R_form HO_9.out (by omega);(first|cases eo30|(injection eo30 with ea_ en_ ec_;(first|subst ea_|(injection ea_ with ea_;subst ea_));subst ec_;clear en_));have GB30:=yaa.mk gb30;have GG30:=yaa.mk HG30;clear gb30 gl30 HG30;obtain⟨hx30_0,hf30_0⟩:=Kd.R_celln 0 HO_9.out (x61_3:Int) p30 q30;replace p30:=eq_true p30;replace q30:=eq_true q30;obtain⟨hy32_,hz32_⟩:=Kd.R_celln 0 HO_9.out (x61_3:Int) (of_decide_eq_true zA) (of_decide_eq_true zA);have HP32:=Kd.R_putg HO_9.out (x61_3:Int) t446)|((with_reducible refine yfu (t:=63) (p:=72) rfl ?_);refine yfc (t:=63) (p:=72) (v:=?vo_w33) (w1:=(w31.setCell ⟨go30,(x61_3:Int).toNat,none⟩ (.int .u64 t446))) ?hg ?ho ?hn ?hr ?_;(case ho=>rfl);(case hg=>rfl);(case hn=>rfl);(case hr=>first|(go_simp;done)|(go_simp;rfl));intro w33 hw;have hg:w31.grownBy w33 (some go30):=(by rw[hw];exact HP32.2);have hp_:Kd.R (Kd.int .u64) 63 w33 w.heap.size (fun _=>True) (.slice (some ⟨go30,0,none⟩) x9_3.length co30) y447:=(by rw[hw,Ny447.out];exact HP32.1);clear HP32;have n0_:=yaa.mk (hp_);have n1_:=yaa.mk ((by rw[hw];exact yga (HB.out) GB30.out:Below w.heap.size w w33));clear HO_9;clear HB;have HO_9:=n0_;have HB:=n1_;clear n0_ n1_;clear hg hw hp_))
                go_roundg k3
                case measure=>have:=HJ3.out;have:=HJ12.out;have:=HK3.out;omega
                case rel=>exact⟨(y447),(wrap64 (x61_3+1)),zF,H',⟨by have:=HJ3.out;have:=HJ12.out;have:=HK3.out;omega⟩,⟨zR HO_9.out⟩,⟨zB⟩⟩
               ·rw[if_neg c29] at H
                exact absurd H (by simp)
              ·rw[if_neg c28] at H
               exact absurd H (by simp)
             ·rw[if_neg c26] at H
              have c26b0:=decide_eq_false c26
              clear c26
              simp only[Option.some.injEq,Prod.mk.injEq] at H
              obtain⟨rfl,rfl⟩:=H
              go_wp2
              go_ret2
              exact⟨_,zG,zR HO_9.out,zB⟩
          ·rw[if_neg c23] at H
           exact absurd H (by simp)
         ·rw[if_neg c22] at H
          exact absurd H (by simp)
def yfd.f (a0:Int):Option (Int):=some (Go.bits .xor .i64 (wrap64 (a0 / 2)) (wrap64 (-(wrap64 (Go.bits .and .u64 a0 1)))))
theorem yfd.calls (a0:Int) (r:Int) (w:World) (h:yfd.f a0=some r) :
  Calls Tryz.prog 105 #[.int .u64 a0] w fun e w'=>e=.returned (.int .i64 r)∧yap w w':=by
 have H:(some (Go.bits .xor .i64 (wrap64 (a0 / 2)) (wrap64 (-(wrap64 (Go.bits .and .u64 a0 1))))))=some r:=h
 clear h
 obtain rfl:=Option.some.inj H
 go_enter Tryz.func105,Tryz.ntmps105
 go_wp2
 go_ret
 exact⟨zF,zD⟩
end Go.Proofs.YteeikgjjgfdjgaaGreat.PK
end
