/-
  Parts of the proof: Za, Zb, Zc, Zd, Xt.
-/
import Derived.Test.YteeikgjjgfdjgaaGreatS5
import Derived.Test.YteeikgjjgfdjgaaGreatS19
import Derived.Test.YteeikgjjgfdjgaaGreatS17
import Derived.Test.YteeikgjjgfdjgaaGreatS15
import Derived.Test.YteeikgjjgfdjgaaGreatS18
import Derived.Test.YteeikgjjgfdjgaaGreatS25
import Derived.Test.YteeikgjjgfdjgaaGreatS9
import Derived.Test.YteeikgjjgfdjgaaGreatS7
import Derived.Test.YteeikgjjgfdjgaaGreatS24
import Derived.Test.YteeikgjjgfdjgaaGreatS23
section
namespace Go.Proofs.YteeikgjjgfdjgaaGreat.PK
open Go.RowKit Go.Proofs.YteeikgjjgfdjgaaGreatW.PrintWords Go.Proofs.YteeikgjjgfdjgaaGreatW.PrintLast Go.Proofs.YteeikgjjgfdjgaaGreatW.PrintMore
set_option linter.unusedVariables false
set_option linter.unusedSimpArgs false
def TextMade (w:World) (r:List Int × Nat × Int) (e:Ending) (w':World):Prop:=∃ A c og,e = .returned (.tuple #[.slice A r.1.length c,.int .i64 (r.2.1:Int),.int .i64 r.2.2]) ∧ Below w.heap.size w w' ∧ (r.2.2 = 0 → Byt w' w.heap.size og (.slice A r.1.length c) r.1)
theorem TextMade.nil {w w':World} {n:Int} (hn:n ≠ 0) (hb:Below w.heap.size w w'):TextMade w ([],0,n) (.returned (.tuple #[.slice none 0 0,.int .i64 0,.int .i64 n])) w':=⟨Option.none,0,Option.none,rfl,hb,fun h=>absurd h hn⟩
theorem cut_full (A:Option Addr) (n c:Nat) (hc:n ≤ c):∀ W:World,(Instr.slice 25 (.slice A n c) none (some (.int .i64 (n:Int))) (some (.int .i64 (n:Int)))).run Tryz.prog W = .ok (.slice A n n) W:=by
 intro W
 obtain ⟨i0,hi0,_,hsz,_⟩:=info_parts info5
 have hel:Tryz.prog.elem 25 = 5:=by simp [Program.elem,Tryz.underlying25]
 have hu:Tryz.prog.underlying 25 = some (.slice (Tryz.prog.elem 25)):=by rw [hel];exact Tryz.underlying25
 have ha:(A.map fun x=>x.add 0) = A:=by cases A <;> simp [Addr.add]
 rw [run_slice_hm W 25 A n c hu .i64 .i64 (n:Int) (n:Int) (by omega) (by omega) (by omega),hel]
 simp [sizeOf,typeInfo,hi0,sliced,Result.andThen,ha]
theorem cut_pre (A:Option Addr) (n c j:Nat) (hj:j ≤ n) (hc:n ≤ c):∀ W:World,(Instr.slice 25 (.slice A n c) none (some (.int .u64 (j:Int))) none).run Tryz.prog W = .ok (.slice A j c) W:=by
 obtain ⟨i0,hi0,_,hsz,_⟩:=info_parts info5
 have h:=cut_to (P:=Tryz.prog) 25 5 .u64 Tryz.underlying25 hi0 A n c (j:Int) (by omega) (by omega) hc
 simpa only [Int.toNat_natCast] using h
theorem step_call {P:Program} {ops:Array Oper} {o:Oper} {a:Act} {w:World} {K:Act → World → Prop} {Q:Exit → Act → World → Prop} {E:Prop} (hgd:o.guard = none) (f:FuncId) (args:Array Value) (hrun:(execOp a.eval o).run P w = .ok (.enter f args) w)
  {Post:Ending → World → Prop} (hc:Calls P f args w Post) (h:∀ e w',Post e w' → ∃ v,e = .returned v ∧ K (a.put o.dst v) w'):if Region.wanted o (yielded ops a.tmps) = true then Oper.wp P o a w K Q else E:=by
 have hw:Region.wanted o (yielded ops a.tmps) = true:=by simp [Region.wanted,hgd]
 rw [if_pos hw]
 unfold Oper.wp
 rw [hrun,Oper.upon_enter]
 refine hc.mono fun e w'' hh=>?_
 obtain ⟨v,rfl,hK⟩:=h e w'' hh
 exact hK
theorem Byt.cut {w:World} {base n c:Nat} {A:Option Addr} {xs:List Int} (h:w.ownsRow base 5 1 (.slice A n c) n (nums .u8 xs)):Byt w base (Value.slice A n c).ownBlock (.slice A n n) xs:=by
 have hl:xs.length = n:=by have:=h.1;rw [nums_length] at this;omega
 rcases Byt.of_own h with ⟨h1,h2,h3⟩ | ⟨g,cap,cells,m,h1,h2,h3,h4,h5,h6,h7,h8,h9⟩
 ·injection h2 with e1 e2 e3
  subst e1;subst e2
  exact .inl ⟨h1,rfl,h3⟩
 ·injection h2 with e1 e2 e3
  refine .inr ⟨g,xs.length,cells,m,h1,by rw [e1,hl],h3,Nat.le_refl _,h5,by omega,h7.elim (fun h=>.inl (by omega)) .inr,by omega,h9⟩
theorem len_u64 {n:Nat} (h:n ≤ 1000000):IntKind.u64.wrap (n:Int) = (n:Int):=wraps_u64 _ (by omega) (by omega)
set_option maxRecDepth 100000 in
set_option maxHeartbeats 2000000 in
theorem text_part (A:Option Addr) (c:Nat) (b:List Int) (p:Nat) (LA:Option Addr) (lc:Nat) (la:List Int) (w:World) (h:Kd.C (Kd.int .u8) w A b.length b) (hc:b.length ≤ c) (hb:Bys b) (hl:b.length ≤ 65000) (hp:p ≤ b.length)
  (hL:Kd.C (Kd.int .u8) w LA la.length la) (hlc:la.length ≤ lc) (hla:la.length ≤ 200) :
  Calls Tryz.prog 112 #[.slice A b.length c,.int .i64 p,.slice LA la.length lc,.bool false] w (TextMade w (preText b p la false)):=by
 have hg0:=get_any h hc hb (by omega) hp w (Below.refl _ _)
 have hgp:=fun (p:Nat) (hp:p ≤ b.length)=>get_any h hc hb (by omega) hp
 have hle0:=fun h=>vget_le hb (p:=p) h
 have hlt0:=fun h=>vget_lt (p:=p) hb h
 unfold preText
 generalize vget b p = r0 at *
 obtain ⟨k1,q,e0⟩:=r0
 simp only at hg0 hle0 hlt0 ⊢
 by_cases he:e0 = 0
 rotate_left
 ·rw [if_pos he]
  have heb:(e0 == 0) = false:=by simpa using he
  have HG:=Lib.hid hg0;have HE:=Lib.hid he
  clear h hb hgp hg0 hle0 hlt0 hL he
  go_enter Tryz.func112,Tryz.ntmps112
  go_wp2_with (go_at_call 39;refine (HG.out).mono ?_;rintro e w1 ⟨rfl,⟨m1,rfl⟩⟩)
  go_ret3
  exact TextMade.nil HE.out (pw_below_drewN (Below.refl _ _) _)
 subst he
 rw [if_neg (by decide)]
 have hq:=(hle0 rfl).1
 have hk64:=hlt0 rfl
 have hg1:=hgp q hq
 have hle1:=fun h=>vget_le hb (p:=q) h
 have hlt1:=fun h=>vget_lt (p:=q) hb h
 generalize vget b q = r1 at *
 obtain ⟨k2,q2,e1⟩:=r1
 simp only at hg1 hle1 hlt1 ⊢
 have HG:=Lib.hid hg0;have HG1:=Lib.hid hg1
 by_cases he1:e1 = 0
 rotate_left
 ·rw [if_pos he1]
  have heb:(e1 == 0) = false:=by simpa using he1
  have HE:=Lib.hid he1
  clear h hb hgp hg0 hle0 hlt0 hg1 hle1 hlt1 hL he1
  go_enter Tryz.func112,Tryz.ntmps112
  go_upto_region 4 with (go_at_call 39;refine (HG.out).mono ?_;rintro e w1 ⟨rfl,⟨m1,rfl⟩⟩)
  go_wp2_with (go_at_call 39;refine (HG1.out _ (by repeat (first | exact Below.refl _ _ | apply pw_below_drewN))).mono ?_;rintro e w2 ⟨rfl,⟨m2,rfl⟩⟩)
  go_ret3
  exact TextMade.nil HE.out (by repeat (first | exact Below.refl _ _ | apply pw_below_drewN))
 subst he1
 rw [if_neg (by decide)]
 have hq2:=(hle1 rfl).1
 have hm64:=hlt1 rfl
 have hlw:=len_u64 (n:=la.length) (by omega)
 clear hg0 hg1 hle0 hle1 hlt0 hlt1 hgp
 by_cases h3:la.length < k1
 ·rw [if_pos (.inl h3)]
  have h3i:(la.length:Int) < (k1:Int):=by omega
  clear h hb hL
  go_enter Tryz.func112,Tryz.ntmps112
  go_upto_region 4 with (go_at_call 39;refine (HG.out).mono ?_;rintro e w1 ⟨rfl,⟨m1,rfl⟩⟩)
  go_wp2_with (go_at_call 39;refine (HG1.out _ (by repeat (first | exact Below.refl _ _ | apply pw_below_drewN))).mono ?_;rintro e w2 ⟨rfl,⟨m2,rfl⟩⟩)
  go_ret3
  exact TextMade.nil (by decide) (by repeat (first | exact Below.refl _ _ | apply pw_below_drewN))
 have h3i:decide ((la.length:Int) < (k1:Int)) = false:=by simp;omega
 have h3n:k1 ≤ la.length:=by omega
 rw [if_neg (by rintro (h | ⟨h,_⟩) <;> first | exact h3 h | exact absurd h (by decide))]
 have hkw:IntKind.u64.wrap (200 - (k1:Int)) = 200 - (k1:Int):=wraps_u64 _ (by omega) (by omega)
 by_cases h4:200 < k1 + k2
 ·rw [if_pos h4]
  have h4i:200 - (k1:Int) < (k2:Int):=by omega
  clear h hb hL h4
  go_enter Tryz.func112,Tryz.ntmps112
  go_upto_region 4 with (go_at_call 39;refine (HG.out).mono ?_;rintro e w1 ⟨rfl,⟨m1,rfl⟩⟩)
  go_wp2_with (go_at_call 39;refine (HG1.out _ (by repeat (first | exact Below.refl _ _ | apply pw_below_drewN))).mono ?_;rintro e w2 ⟨rfl,⟨m2,rfl⟩⟩)
  go_ret3
  exact TextMade.nil (by decide) (by repeat (first | exact Below.refl _ _ | apply pw_below_drewN))
 rw [if_neg h4]
 have h4i:decide (200 - (k1:Int) < (k2:Int)) = false:=by simp;omega
 have h4n:(k2:Int) ≤ 200 - (k1:Int):=by omega
 have h4m:k1 + k2 ≤ 200:=by omega
 have hk2w:IntKind.i64.wrap (k2:Int) = (k2:Int):=wraps_i64 _ (by omega) (by omega)
 by_cases h5:b.length - q2 < k2
 ·rw [if_pos h5]
  have h5i:(b.length:Int) - (q2:Int) < (k2:Int):=by omega
  clear h hb hL h4
  go_enter Tryz.func112,Tryz.ntmps112
  go_upto_region 4 with (go_at_call 39;refine (HG.out).mono ?_;rintro e w1 ⟨rfl,⟨m1,rfl⟩⟩)
  go_wp2_with (go_at_call 39;refine (HG1.out _ (by repeat (first | exact Below.refl _ _ | apply pw_below_drewN))).mono ?_;rintro e w2 ⟨rfl,⟨m2,rfl⟩⟩)
  go_ret3
  exact TextMade.nil (by decide) (by repeat (first | exact Below.refl _ _ | apply pw_below_drewN))
 rw [if_neg h5]
 have h5i:decide ((b.length:Int) - (q2:Int) < (k2:Int)) = false:=by simp;omega
 have h5n:(k2:Int) ≤ (b.length:Int) - (q2:Int):=by omega
 have h5m:q2 + k2 ≤ b.length:=by omega
 have hcut1:=cut_pre LA la.length lc k1 h3n hlc
 obtain ⟨X,hX⟩:∃ X,X = la.take k1:=⟨_,rfl⟩
 have hXl:X.length = k1:=by rw [hX,List.length_take];omega
 have hXC:Kd.C (Kd.int .u8) w LA X.length X:=by rw [hX];exact Kd.C_take hL h3n
 obtain ⟨B',hcut2,hB'⟩:=mid_bytes A c b q2 (q2 + k2) (by omega) h5m hc
 have hsd:(b.take (q2 + k2)).drop q2 = (b.drop q2).take k2:=by rw [List.drop_take];congr 1;omega
 rw [show q2 + k2 - q2 = k2 by omega,hsd] at hB'
 rw [show q2 + k2 - q2 = k2 by omega,show ((q2 + k2:Nat):Int) = (q2:Int) + (k2:Int) by omega] at hcut2
 obtain ⟨Y,hY⟩:∃ Y,Y = (b.drop q2).take k2:=⟨_,rfl⟩
 have hYl:Y.length = k2:=by rw [hY,List.length_take,List.length_drop];omega
 have hYC:Kd.C (Kd.int .u8) w B' Y.length Y:=by rw [hYl,hY];exact hB' w h
 rw [← hX,← hY]
 have hq2k:IntKind.i64.wrap ((q2:Int) + (k2:Int)) = (q2:Int) + (k2:Int):=wraps_i64 _ (by omega) (by omega)
 have hq20:(0:Int) ≤ (q2:Int) + (k2:Int):=by omega
 have hcl:=fun (w2:World) (hb2:Below w.heap.size w w2)=>clone_any LA lc X w2 (Kd.C_below hXC hb2) (by omega)
 have hfull:=fun (A:Option Addr) (c:Nat) (h:(X ++ Y).length ≤ c)=>cut_full A (X ++ Y).length c h
 have hSl:(X ++ Y).length = k1 + k2:=by rw [List.length_append,hXl,hYl]
 have HCL:=Lib.hid hcl;have HYC:=Lib.hid hYC;have HSL:=Lib.hid hSl;have HLC:=Lib.hid hL
 clear h hb hL hXC hB' hsd hY hX hcl hYC hSl h4
 subst hXl
 subst hYl
 by_cases hk:sharedL la (X ++ Y) = X.length
 ·rw [if_neg (by rintro ⟨_,h⟩;exact h hk)]
  have hxw:IntKind.i64.wrap (X.length:Int) = (X.length:Int):=wraps_i64 _ (by omega) (by omega)
  go_enter Tryz.func112,Tryz.ntmps112
  go_upto_region 4 with (go_at_call 39;refine (HG.out).mono ?_;rintro e w1 ⟨rfl,⟨m1,rfl⟩⟩)
  go_upto_region 13 with (go_at_call 39;refine (HG1.out _ (by repeat (first | exact Below.refl _ _ | apply pw_below_drewN))).mono ?_;rintro e w2 ⟨rfl,⟨m2,rfl⟩⟩)
  have hbx:Below w.heap.size w (w.drewN (m1 + m2)):=pw_below_drewN (Below.refl _ _) _
  generalize w.drewN (m1 + m2) = wx at *
  have HBX:=Lib.hid hbx
  have hcd:=HCL.out wx.drew (below_drew HBX.out)
  clear HG HG1 hbx
  go_region_law (first
   | (refine step_call rfl 106 #[.slice LA X.length lc] ?hr hcd ?_;(case hr=>kernel_rfl);rintro e w6 ⟨A6,c6,rfl,ho6,hb6'⟩;refine ⟨_,rfl,?_⟩;have hb6:=below_then (below_drew HBX.out) (below_drew HBX.out).size hb6';have hR6:Kd.R (Kd.int .u8) 5 w6 w.heap.size (fun _=>True) (.slice A6 X.length c6) X:=Kd.R_of_own (own_weaken ho6 (below_drew HBX.out).size) (fun _ _=>trivial))
   | (refine Kd.R_append_rows_step (Kd.int .u8) (w0:=w) w.heap.size (by rfl) (.tmp 65) (.tmp 72) 25 5 (.int .u8 0) 1 (by rfl) Tryz.underlying25 info5 rfl (by decide) (by decide) _ X Y B' Y.length (c - q2) (fun _=>True) (fun _=>False) (by rfl) (by rfl)
       (by (with_reducible repeat (first | apply Kd.R_drewN | apply Kd.R_drew));exact hR6)
       (Kd.C_below HYC.out (by repeat (first | exact hb6 | exact Below.refl _ _ | apply pw_below_drewN | apply below_drew))) (fun x cs h=>h) (fun _ h=>h.elim) (fun _ _=>trivial) (by repeat (first | exact hb6 | exact Below.refl _ _ | apply pw_below_drewN | apply below_drew)) (by refine (fun (hx:Below w.heap.size w _)=>hx.size) ?_;repeat (first | exact hb6 | exact Below.refl _ _ | apply pw_below_drewN | apply below_drew)) (by (try simp only [List.length_nil]);omega) ?_;intro v9 w9 hR9 hb9 hg9 hat9))
  have HAT:=Lib.hid (show (q2:Int) + (Y.length:Int) = ((q2 + Y.length:Nat):Int) by omega)
  obtain ⟨A9,c9,rfl,hc9,hC9⟩:=Kd.R_reads hR9
  have hbyt:=Byt.cut (Kd.own_of_R hR9)
  have hfl:=hfull A9 c9 hc9
  have HBY:=Lib.hid hbyt;have HB9:=Lib.hid hb9
  have hsh:=shared_any LA A9 lc c9 la (X ++ Y) w9 (Kd.C_below HLC.out hb9) hC9
  rw [hk] at hsh
  clear hk
  have HSH:=Lib.hid hsh
  clear hsh
  clear hfull hR9 hC9 hbyt hb9 hg9 hat9 hR6 hb6 hb6' ho6 hcut1 hcut2 hcd HCL HYC HLC HBX
  generalize X ++ Y = S at *
  go_wp2_with (go_at_call 128;refine HSH.out.mono ?_;rintro e w10 ⟨rfl,⟨m10,rfl⟩⟩)
  go_ret3
  exact ⟨A9,S.length,_,congrArg (fun z=>Ending.returned (.tuple #[.slice A9 S.length S.length,.int .i64 z,.int .i64 0])) HAT.out,by repeat (first | exact HB9.out | apply pw_below_drewN),fun _=>Byt.keep HBY.out (fun g hg=>(by rfl))⟩
 ·rw [if_pos ⟨by simp,hk⟩]
  have hki:¬ (sharedL la (X ++ Y):Int) = (X.length:Int):=by omega
  have hkb:((sharedL la (X ++ Y):Int) == (X.length:Int)) = false:=by simpa using hki
  clear hk
  have hxw:IntKind.i64.wrap (X.length:Int) = (X.length:Int):=wraps_i64 _ (by omega) (by omega)
  go_enter Tryz.func112,Tryz.ntmps112
  go_upto_region 4 with (go_at_call 39;refine (HG.out).mono ?_;rintro e w1 ⟨rfl,⟨m1,rfl⟩⟩)
  go_upto_region 13 with (go_at_call 39;refine (HG1.out _ (by repeat (first | exact Below.refl _ _ | apply pw_below_drewN))).mono ?_;rintro e w2 ⟨rfl,⟨m2,rfl⟩⟩)
  have hbx:Below w.heap.size w (w.drewN (m1 + m2)):=pw_below_drewN (Below.refl _ _) _
  generalize w.drewN (m1 + m2) = wx at *
  have HBX:=Lib.hid hbx
  have hcd:=HCL.out wx.drew (below_drew HBX.out)
  clear HG HG1 hbx
  go_region_law (first
   | (refine step_call rfl 106 #[.slice LA X.length lc] ?hr hcd ?_;(case hr=>kernel_rfl);rintro e w6 ⟨A6,c6,rfl,ho6,hb6'⟩;refine ⟨_,rfl,?_⟩;have hb6:=below_then (below_drew HBX.out) (below_drew HBX.out).size hb6';have hR6:Kd.R (Kd.int .u8) 5 w6 w.heap.size (fun _=>True) (.slice A6 X.length c6) X:=Kd.R_of_own (own_weaken ho6 (below_drew HBX.out).size) (fun _ _=>trivial))
   | (refine Kd.R_append_rows_step (Kd.int .u8) (w0:=w) w.heap.size (by rfl) (.tmp 65) (.tmp 72) 25 5 (.int .u8 0) 1 (by rfl) Tryz.underlying25 info5 rfl (by decide) (by decide) _ X Y B' Y.length (c - q2) (fun _=>True) (fun _=>False) (by rfl) (by rfl)
       (by (with_reducible repeat (first | apply Kd.R_drewN | apply Kd.R_drew));exact hR6)
       (Kd.C_below HYC.out (by repeat (first | exact hb6 | exact Below.refl _ _ | apply pw_below_drewN | apply below_drew))) (fun x cs h=>h) (fun _ h=>h.elim) (fun _ _=>trivial) (by repeat (first | exact hb6 | exact Below.refl _ _ | apply pw_below_drewN | apply below_drew)) (by refine (fun (hx:Below w.heap.size w _)=>hx.size) ?_;repeat (first | exact hb6 | exact Below.refl _ _ | apply pw_below_drewN | apply below_drew)) (by (try simp only [List.length_nil]);omega) ?_;intro v9 w9 hR9 hb9 hg9 hat9))
  have HAT:=Lib.hid (show (q2:Int) + (Y.length:Int) = ((q2 + Y.length:Nat):Int) by omega)
  obtain ⟨A9,c9,rfl,hc9,hC9⟩:=Kd.R_reads hR9
  have hbyt:=Byt.cut (Kd.own_of_R hR9)
  have hfl:=hfull A9 c9 hc9
  have HBY:=Lib.hid hbyt;have HB9:=Lib.hid hb9
  have hsh:=shared_any LA A9 lc c9 la (X ++ Y) w9 (Kd.C_below HLC.out hb9) hC9
  generalize sharedL la (X ++ Y) = sk at *
  have HSH:=Lib.hid hsh
  clear hsh
  clear hfull hR9 hC9 hbyt hb9 hg9 hat9 hR6 hb6 hb6' ho6 hcut1 hcut2 hcd HCL HYC HLC HBX
  generalize X ++ Y = S at *
  go_wp2_with (go_at_call 128;refine HSH.out.mono ?_;rintro e w10 ⟨rfl,⟨m10,rfl⟩⟩)
  go_ret3
  exact TextMade.nil (by decide) (by repeat (first | exact HB9.out | apply pw_below_drewN))
set_option maxRecDepth 100000 in
set_option maxHeartbeats 2000000 in
theorem text_whole (A:Option Addr) (c:Nat) (b:List Int) (p:Nat) (LA:Option Addr) (lc:Nat) (la:List Int) (w:World) (h:Kd.C (Kd.int .u8) w A b.length b) (hc:b.length ≤ c) (hb:Bys b) (hl:b.length ≤ 65000) (hp:p ≤ b.length)
  (hL:Kd.C (Kd.int .u8) w LA la.length la) (hlc:la.length ≤ lc) (hla:la.length ≤ 200) :
  Calls Tryz.prog 112 #[.slice A b.length c,.int .i64 p,.slice LA la.length lc,.bool true] w (TextMade w (preText b p la true)):=by
 have hg0:=get_any h hc hb (by omega) hp w (Below.refl _ _)
 have hgp:=fun (p:Nat) (hp:p ≤ b.length)=>get_any h hc hb (by omega) hp
 have hle0:=fun h=>vget_le hb (p:=p) h
 have hlt0:=fun h=>vget_lt (p:=p) hb h
 unfold preText
 generalize vget b p = r0 at *
 obtain ⟨k1,q,e0⟩:=r0
 simp only at hg0 hle0 hlt0 ⊢
 by_cases he:e0 = 0
 rotate_left
 ·rw [if_pos he]
  have heb:(e0 == 0) = false:=by simpa using he
  have HG:=Lib.hid hg0;have HE:=Lib.hid he
  clear h hb hgp hg0 hle0 hlt0 hL he
  go_enter Tryz.func112,Tryz.ntmps112
  go_wp2_with (go_at_call 39;refine (HG.out).mono ?_;rintro e w1 ⟨rfl,⟨m1,rfl⟩⟩)
  go_ret3
  exact TextMade.nil HE.out (pw_below_drewN (Below.refl _ _) _)
 subst he
 rw [if_neg (by decide)]
 have hq:=(hle0 rfl).1
 have hk64:=hlt0 rfl
 have hg1:=hgp q hq
 have hle1:=fun h=>vget_le hb (p:=q) h
 have hlt1:=fun h=>vget_lt (p:=q) hb h
 generalize vget b q = r1 at *
 obtain ⟨k2,q2,e1⟩:=r1
 simp only at hg1 hle1 hlt1 ⊢
 have HG:=Lib.hid hg0;have HG1:=Lib.hid hg1
 by_cases he1:e1 = 0
 rotate_left
 ·rw [if_pos he1]
  have heb:(e1 == 0) = false:=by simpa using he1
  have HE:=Lib.hid he1
  clear h hb hgp hg0 hle0 hlt0 hg1 hle1 hlt1 hL he1
  go_enter Tryz.func112,Tryz.ntmps112
  go_upto_region 4 with (go_at_call 39;refine (HG.out).mono ?_;rintro e w1 ⟨rfl,⟨m1,rfl⟩⟩)
  go_wp2_with (go_at_call 39;refine (HG1.out _ (by repeat (first | exact Below.refl _ _ | apply pw_below_drewN))).mono ?_;rintro e w2 ⟨rfl,⟨m2,rfl⟩⟩)
  go_ret3
  exact TextMade.nil HE.out (by repeat (first | exact Below.refl _ _ | apply pw_below_drewN))
 subst he1
 rw [if_neg (by decide)]
 have hq2:=(hle1 rfl).1
 have hm64:=hlt1 rfl
 have hlw:=len_u64 (n:=la.length) (by omega)
 clear hg0 hg1 hle0 hle1 hlt0 hlt1 hgp
 by_cases h3:la.length < k1
 ·rw [if_pos (.inl h3)]
  have h3i:(la.length:Int) < (k1:Int):=by omega
  clear h hb hL
  go_enter Tryz.func112,Tryz.ntmps112
  go_upto_region 4 with (go_at_call 39;refine (HG.out).mono ?_;rintro e w1 ⟨rfl,⟨m1,rfl⟩⟩)
  go_wp2_with (go_at_call 39;refine (HG1.out _ (by repeat (first | exact Below.refl _ _ | apply pw_below_drewN))).mono ?_;rintro e w2 ⟨rfl,⟨m2,rfl⟩⟩)
  go_ret3
  exact TextMade.nil (by decide) (by repeat (first | exact Below.refl _ _ | apply pw_below_drewN))
 have h3i:decide ((la.length:Int) < (k1:Int)) = false:=by simp;omega
 have h3n:k1 ≤ la.length:=by omega
 by_cases h3b:0 < k1
 ·rw [if_pos (.inr ⟨by simp,h3b⟩)]
  have h3c:(0:Int) < (k1:Int):=by omega
  clear h hb hL
  go_enter Tryz.func112,Tryz.ntmps112
  go_upto_region 4 with (go_at_call 39;refine (HG.out).mono ?_;rintro e w1 ⟨rfl,⟨m1,rfl⟩⟩)
  go_wp2_with (go_at_call 39;refine (HG1.out _ (by repeat (first | exact Below.refl _ _ | apply pw_below_drewN))).mono ?_;rintro e w2 ⟨rfl,⟨m2,rfl⟩⟩)
  go_ret3
  exact TextMade.nil (by decide) (by repeat (first | exact Below.refl _ _ | apply pw_below_drewN))
 rw [if_neg (by rintro (h | ⟨_,h⟩) <;> first | exact h3 h | exact h3b h)]
 obtain rfl:k1 = 0:=by omega
 have hz0:(((0:Nat):Int)) = 0:=rfl
 have hgz:=HG.out
 rw [hz0] at hgz
 have HG:=Lib.hid hgz
 clear hgz h3 h3b h3i h3n hk64
 by_cases h4:200 < 0 + k2
 ·rw [if_pos h4]
  have h4i:(200:Int) < (k2:Int):=by omega
  clear h hb hL h4
  go_enter Tryz.func112,Tryz.ntmps112
  go_upto_region 4 with (go_at_call 39;refine (HG.out).mono ?_;rintro e w1 ⟨rfl,⟨m1,rfl⟩⟩)
  go_wp2_with (go_at_call 39;refine (HG1.out _ (by repeat (first | exact Below.refl _ _ | apply pw_below_drewN))).mono ?_;rintro e w2 ⟨rfl,⟨m2,rfl⟩⟩)
  go_ret3
  exact TextMade.nil (by decide) (by repeat (first | exact Below.refl _ _ | apply pw_below_drewN))
 rw [if_neg h4]
 have h4i:decide ((200:Int) < (k2:Int)) = false:=by simp;omega
 have h4n:(k2:Int) ≤ 200:=by omega
 have h4m:k2 ≤ 200:=by omega
 have hk2w:IntKind.i64.wrap (k2:Int) = (k2:Int):=wraps_i64 _ (by omega) (by omega)
 by_cases h5:b.length - q2 < k2
 ·rw [if_pos h5]
  have h5i:(b.length:Int) - (q2:Int) < (k2:Int):=by omega
  clear h hb hL h4
  go_enter Tryz.func112,Tryz.ntmps112
  go_upto_region 4 with (go_at_call 39;refine (HG.out).mono ?_;rintro e w1 ⟨rfl,⟨m1,rfl⟩⟩)
  go_wp2_with (go_at_call 39;refine (HG1.out _ (by repeat (first | exact Below.refl _ _ | apply pw_below_drewN))).mono ?_;rintro e w2 ⟨rfl,⟨m2,rfl⟩⟩)
  go_ret3
  exact TextMade.nil (by decide) (by repeat (first | exact Below.refl _ _ | apply pw_below_drewN))
 rw [if_neg h5]
 have h5i:decide ((b.length:Int) - (q2:Int) < (k2:Int)) = false:=by simp;omega
 have h5n:(k2:Int) ≤ (b.length:Int) - (q2:Int):=by omega
 have h5m:q2 + k2 ≤ b.length:=by omega
 have hcut1:=cut_pre LA la.length lc 0 (Nat.zero_le _) hlc
 rw [hz0] at hcut1
 have hXC:Kd.C (Kd.int .u8) w LA ([]:List Int).length []:=by have h0:=Kd.C_take hL (Nat.zero_le la.length);rwa [List.take_zero] at h0
 obtain ⟨B',hcut2,hB'⟩:=mid_bytes A c b q2 (q2 + k2) (by omega) h5m hc
 have hsd:(b.take (q2 + k2)).drop q2 = (b.drop q2).take k2:=by rw [List.drop_take];congr 1;omega
 rw [show q2 + k2 - q2 = k2 by omega,hsd] at hB'
 rw [show q2 + k2 - q2 = k2 by omega,show ((q2 + k2:Nat):Int) = (q2:Int) + (k2:Int) by omega] at hcut2
 obtain ⟨Y,hY⟩:∃ Y,Y = (b.drop q2).take k2:=⟨_,rfl⟩
 have hYl:Y.length = k2:=by rw [hY,List.length_take,List.length_drop];omega
 have hYC:Kd.C (Kd.int .u8) w B' Y.length Y:=by rw [hYl,hY];exact hB' w h
 rw [← hY,List.take_zero,List.nil_append]
 have hq2k:IntKind.i64.wrap ((q2:Int) + (k2:Int)) = (q2:Int) + (k2:Int):=wraps_i64 _ (by omega) (by omega)
 have hq20:(0:Int) ≤ (q2:Int) + (k2:Int):=by omega
 have hcl:=fun (w2:World) (hb2:Below w.heap.size w w2)=>clone_any LA lc [] w2 (Kd.C_below hXC hb2) (by simp)
 simp only [List.length_nil] at hcl
 have hfull:=fun (A:Option Addr) (c:Nat) (h:Y.length ≤ c)=>cut_full A Y.length c h
 have HCL:=Lib.hid hcl;have HYC:=Lib.hid hYC;have HLC:=Lib.hid hL
 clear h hb hL hXC hB' hsd hY hcl hYC h4
 subst hYl
 rw [if_neg (by rintro ⟨h,_⟩;exact absurd h (by decide))]
 go_enter Tryz.func112,Tryz.ntmps112
 go_upto_region 4 with (go_at_call 39;refine (HG.out).mono ?_;rintro e w1 ⟨rfl,⟨m1,rfl⟩⟩)
 go_upto_region 13 with (go_at_call 39;refine (HG1.out _ (by repeat (first | exact Below.refl _ _ | apply pw_below_drewN))).mono ?_;rintro e w2 ⟨rfl,⟨m2,rfl⟩⟩)
 have hbx:Below w.heap.size w (w.drewN (m1 + m2)):=pw_below_drewN (Below.refl _ _) _
 generalize w.drewN (m1 + m2) = wx at *
 have HBX:=Lib.hid hbx
 have hcd:=HCL.out wx.drew (below_drew HBX.out)
 clear HG HG1 hbx
 go_region_law (first
  | (refine step_call rfl 106 #[.slice LA 0 lc] ?hr hcd ?_;(case hr=>kernel_rfl);rintro e w6 ⟨A6,c6,rfl,ho6,hb6'⟩;refine ⟨_,rfl,?_⟩;have hb6:=below_then (below_drew HBX.out) (below_drew HBX.out).size hb6';have hR6:Kd.R (Kd.int .u8) 5 w6 w.heap.size (fun _=>True) (.slice A6 0 c6) []:=Kd.R_of_own (own_weaken ho6 (below_drew HBX.out).size) (fun _ _=>trivial))
  | (refine Kd.R_append_rows_step (Kd.int .u8) (w0:=w) w.heap.size (by rfl) (.tmp 65) (.tmp 72) 25 5 (.int .u8 0) 1 (by rfl) Tryz.underlying25 info5 rfl (by decide) (by decide) _ [] Y B' Y.length (c - q2) (fun _=>True) (fun _=>False) (by rfl) (by rfl)
      (by (with_reducible repeat (first | apply Kd.R_drewN | apply Kd.R_drew));exact hR6)
      (Kd.C_below HYC.out (by repeat (first | exact hb6 | exact Below.refl _ _ | apply pw_below_drewN | apply below_drew))) (fun x cs h=>h) (fun _ h=>h.elim) (fun _ _=>trivial) (by repeat (first | exact hb6 | exact Below.refl _ _ | apply pw_below_drewN | apply below_drew)) (by refine (fun (hx:Below w.heap.size w _)=>hx.size) ?_;repeat (first | exact hb6 | exact Below.refl _ _ | apply pw_below_drewN | apply below_drew)) (by (try simp only [List.length_nil]);omega) ?_;intro v9 w9 hR9 hb9 hg9 hat9))
 have HAT:=Lib.hid (show (q2:Int) + (Y.length:Int) = ((q2 + Y.length:Nat):Int) by omega)
 rw [List.nil_append] at hR9
 obtain ⟨A9,c9,rfl,hc9,hC9⟩:=Kd.R_reads hR9
 have hbyt:=Byt.cut (Kd.own_of_R hR9)
 have hfl:=hfull A9 c9 hc9
 have HBY:=Lib.hid hbyt;have HB9:=Lib.hid hb9
 clear hfull hR9 hC9 hbyt hb9 hg9 hat9 hR6 hb6 hb6' ho6 hcut1 hcut2 hcd HCL HYC HLC HBX
 go_wp2
 go_ret3
 exact ⟨A9,Y.length,_,congrArg (fun z=>Ending.returned (.tuple #[.slice A9 Y.length Y.length,.int .i64 z,.int .i64 0])) HAT.out,by repeat (first | exact HB9.out | apply pw_below_drewN),fun _=>Byt.keep HBY.out (fun g hg=>(by rfl))⟩
theorem preText_le {b la:List Int} (hb:Bys b) {p:Nat} {wh:Bool} (h:(preText b p la wh).2.2 = 0):(preText b p la wh).2.1 ≤ b.length ∧ (preText b p la wh).1.length ≤ 200:=by
 have h2:=fun h=>(vget_le hb (p:=(vget b p).2.1) h).1
 unfold preText at h ⊢
 by_cases c1:(vget b p).2.2 = 0
 rotate_left
 ·rw [if_pos c1] at h;exact absurd h c1
 rw [if_neg (by simpa using c1)] at h ⊢
 by_cases c2:(vget b (vget b p).2.1).2.2 = 0
 rotate_left
 ·rw [if_pos c2] at h;exact absurd h c2
 rw [if_neg (by simpa using c2)] at h ⊢
 have h3:=h2 c2
 split at h
 ·exact absurd h (by decide)
 split at h
 ·exact absurd h (by decide)
 split at h
 ·exact absurd h (by decide)
 split at h
 ·exact absurd h (by decide)
 rename_i c3 c4 c5 c6
 rw [if_neg c3,if_neg c4,if_neg c5,if_neg c6]
 refine ⟨by simp only;omega,?_⟩
 simp only [List.length_append,List.length_take]
 omega
theorem EntX.push {W w1:World} {base:Nat} {v v1 u:Value} {og:Option Nat} {s:List Int} {vs:List Value} {ogs:List (Option Nat)} {es:List (List Int)} {B:Nat} (h:EntX W base B v vs ogs es) (hBW:B ≤ W.heap.size) (hu:Byt W base og u s) (hn:∀ g,og = some g → ∀ i:Nat,ogs[i]? ≠ some (some g))
  (hown:w1.ownsRow base 25 1 v1 (es.length + 1) (vs ++ [u])) (hg:W.grownBy w1 v.ownBlock):EntX w1 base w1.heap.size v1 (vs ++ [u]) (ogs ++ [og]) (es ++ [s]):=by
 have hvl:vs.length = es.length:=by have:=h.row.1;omega
 have hkeep:∀ (og':Option Nat) (u':Value) (x:List Int),Byt W base og' u' x → Byt w1 base og' u' x:=fun og' u' x hB=>hB.keep (fun g hg'=>hg.block g (hB.lt g hg') (fun e=>by
  obtain ⟨cells,m,h1⟩:=hB.typed g hg'
  obtain ⟨cells',h2⟩:=own_typed h.row g e.symm
  rw [h1] at h2
  injection h2 with h2
  injection h2 with _ h2 _
  exact absurd h2 (by decide)))
 refine ⟨by rw [List.length_append];exact hown,by rw [List.length_append,List.length_append,h.len];rfl,fun i j g hij hi hj=>?_,fun i g hi=>?_,fun i hi=>?_⟩
 ·by_cases hj2:j < ogs.length
  ·rw [List.getElem?_append_left hj2] at hj
   rw [List.getElem?_append_left (by omega)] at hi
   exact h.apart i j g hij hi hj
  ·rw [List.getElem?_append_right (by omega)] at hj
   obtain ⟨hj3,hj4⟩:=List.getElem?_eq_some_iff.1 hj
   have hj5:j - ogs.length = 0:=by simpa using hj3
   rw [List.getElem?_append_left (by omega)] at hi
   rw [hj5] at hj
   have e:og = some g:=by simpa using hj
   exact hn g e i hi
 ·by_cases hj2:i < ogs.length
  ·rw [List.getElem?_append_left hj2] at hi
   exact Nat.lt_of_lt_of_le (Nat.lt_of_lt_of_le (h.low i g hi) hBW) hg.size
  ·rw [List.getElem?_append_right (by omega)] at hi
   obtain ⟨hj3,hj4⟩:=List.getElem?_eq_some_iff.1 hi
   have hj5:i - ogs.length = 0:=by simpa using hj3
   rw [hj5] at hi
   have e:og = some g:=by simpa using hi
   exact Nat.lt_of_lt_of_le (hu.lt g e) hg.size
 ·by_cases hi2:i < es.length
  ·obtain ⟨u',og',h1,h2,h3⟩:=h.each i hi2
   refine ⟨u',og',by rw [List.getElem?_append_left (by omega)];exact h1,by rw [List.getElem?_append_left (by rw [h.len];exact hi2)];exact h2,?_⟩
   rw [List.getElem_append_left hi2]
   exact hkeep _ _ _ h3
  ·have hi3:i = es.length:=by rw [List.length_append,List.length_singleton] at hi;omega
   subst hi3
   refine ⟨u,og,by rw [← hvl];simp,by rw [← h.len];simp,?_⟩
   rw [List.getElem_append_right (Nat.le_refl _)]
   simpa using hkeep _ _ _ hu
set_option maxRecDepth 100000 in
set_option maxHeartbeats 2000000 in
theorem preDec_any (A:Option Addr) (c:Nat) (b:List Int) (w:World) (h:Kd.C (Kd.int .u8) w A b.length b) (hc:b.length ≤ c) (hb:Bys b) (hl:b.length ≤ 65000) :
  Calls Tryz.prog 71 #[.slice A b.length c] w (TextsMade w (decPre b).1 (decPre b).2):=by
 have hg0:=get_any h hc hb (by omega) (Nat.zero_le _) w (Below.refl _ _)
 have hle0:=fun h=>vget_le hb (p:=0) h
 have htx:=fun (p:Nat) (hp:p ≤ b.length) (LA:Option Addr) (lc:Nat) (la:List Int) (w2:World) (hb2:Below w.heap.size w w2) (hL:Kd.C (Kd.int .u8) w2 LA la.length la) (hlc:la.length ≤ lc) (hla:la.length ≤ 200) =>
  text_part A c b p LA lc la w2 (Kd.C_below h hb2) hc hb hl hp hL hlc hla
 have hty:=fun (p:Nat) (hp:p ≤ b.length) (LA:Option Addr) (lc:Nat) (la:List Int) (w2:World) (hb2:Below w.heap.size w w2) (hL:Kd.C (Kd.int .u8) w2 LA la.length la) (hlc:la.length ≤ lc) (hla:la.length ≤ 200) =>
  text_whole A c b p LA lc la w2 (Kd.C_below h hb2) hc hb hl hp hL hlc hla
 have hpl:=fun (p:Nat) (la:List Int) (wh:Bool)=>@preText_le b la hb p wh
 unfold decPre
 rw [show (((0:Nat):Int)) = 0 from rfl] at hg0
 have hlt:=fun h=>vget_lt (p:=0) hb h
 generalize hv0:vget b 0 = r0 at *
 obtain ⟨n,q,e0⟩:=r0
 simp only at hg0 hle0 hlt ⊢
 by_cases he:e0 = 0
 rotate_left
 ·rw [if_pos he]
  have heb:(e0 == 0) = false:=by simpa using he
  have HG:=Lib.hid hg0
  clear h hb hg0 hle0 hlt hv0 htx hty hpl
  go_enter Tryz.func71,Tryz.ntmps71
  go_wp2_with (go_at_call 39;refine (HG.out).mono ?_;rintro e w1 ⟨rfl,⟨m1,rfl⟩⟩)
  go_ret2
  exact ⟨_,rfl,pw_below_drewN (Below.refl _ _) _,EntB.nil _ _⟩
 subst he
 rw [if_neg (by decide)]
 have hle:=(hle0 rfl).1
 by_cases hn:4096 < n
 ·rw [if_pos hn]
  have hi:(4096:Int) < (n:Int):=by omega
  have HG:=Lib.hid hg0
  clear h hb hg0 hle0 hlt hv0 htx hty hpl
  go_enter Tryz.func71,Tryz.ntmps71
  go_wp2_with (go_at_call 39;refine (HG.out).mono ?_;rintro e w1 ⟨rfl,⟨m1,rfl⟩⟩)
  go_ret2
  exact ⟨_,rfl,pw_below_drewN (Below.refl _ _) _,EntB.nil _ _⟩
 rw [if_neg hn]
 have hi:decide ((4096:Int) < (n:Int)) = false:=by simp;omega
 have hi3:n ≤ 4096:=by omega
 obtain ⟨X,hX⟩:∃ X,decPreL b n 0 q [] [] = X:=⟨_,rfl⟩
 rw [hX]
 generalize hRR:(if X.2.2 ≠ 0 then (([]:List (List Int)),X.2.2) else if X.2.1 < b.length then ([],3) else (X.1,0)) = RR
 have HRR:=Lib.hid hRR;have HX:=Lib.hid hX;have HG:=Lib.hid hg0;have HTX:=Lib.hid htx;have HTY:=Lib.hid hty;have HPL:=Lib.hid hpl
 clear h hb hg0 hle0 hlt hv0 htx hty hpl hX hRR
 go_enter Tryz.func71,Tryz.ntmps71
 go_wp2_with (go_at_call 39;refine (HG.out).mono ?_;rintro e w1 ⟨rfl,⟨m1,rfl⟩⟩)
 go_loopw [5,6,7,8,9,24] (fun v5 _ v7 v8 _ vi wq=>∃ (i p:Nat) (la:List Int) (A8:Option Addr) (c8:Nat) (vs:List Value) (ogs:List (Option Nat)) (out:List (List Int)) (A7:Option Addr) (c7:Nat),i ≤ n ∧ vi = .int .u64 i ∧ v5 = .int .i64 p ∧ p ≤ b.length ∧ v8 = .slice A8 la.length c8 ∧ la.length ≤ c8 ∧ la.length ≤ 200 ∧ out.length = i ∧ v7 = .slice A7 i c7 ∧ RowKit.Hid (decPreL b (n - i) i p la out = X) ∧ RowKit.Hid (Kd.C (Kd.int .u8) wq A8 la.length la) ∧ RowKit.Hid (EntX wq w.heap.size wq.heap.size (.slice A7 i c7) vs ogs out) ∧ RowKit.Hid (Below w.heap.size w wq)) (fun _ _ _ _ _ vi _=>n - (intOf vi).toNat)
 case atStart=>exact ⟨0,q,[],none,0,[],[],[],none,0,Nat.zero_le _,rfl,rfl,hle,rfl,Nat.le_refl _,by decide,rfl,rfl,HX,Lib.hid (Kd.C_nil _ _),Lib.hid ⟨own_nil _ _ _ _,rfl,fun i j g _ h=>by simp at h,fun i g h=>by simp at h,fun i h=>absurd h (by simp)⟩,Lib.hid (pw_below_drewN (Below.refl _ _) _)⟩
 case round =>
  obtain ⟨i,p,la,A8,c8,vs,ogs,out,A7,c7,hi9,rfl,rfl,hp,rfl,hc8,hla,hol,rfl,hXi,HC8,HEN,HBR⟩:=hrel
  by_cases hlt:i < n
  ·obtain ⟨m,hm⟩:∃ m,n - i = m + 1:=⟨n - i - 1,by omega⟩
   have hm2:n - (i + 1) = m:=by omega
   have hX1:=hXi.out
   rw [hm] at hX1
   unfold decPreL at hX1
   by_cases h16:i % 16 = 0
   ·rw [decide_eq_true h16] at hX1
    have hr1:(i:Int) % 16 = 0:=by omega
    have hr2:Int.tmod (i:Int) 16 = 0:=by rw [Int.tmod_eq_emod_of_nonneg (by omega)];exact hr1
    have ht:=HTY.out p hp A8 c8 la
    have hpp:=HPL.out p la true
    generalize preText b p la true = r at *
    obtain ⟨s,p2,e2⟩:=r
    simp only at ht hpp hX1
    have HT:=Lib.hid ht
    by_cases he2:e2 = 0
    ·subst he2
     rw [if_neg (by decide)] at hX1
     obtain ⟨hp2,hs2⟩:=hpp rfl
     obtain ⟨i0,hi0,hz0,hz1,hz2⟩:=info_parts info25
     have hvl:vs.length = i:=by have:=HEN.out.row.1;omega
     have HX1:=Lib.hid hX1;have HM2:=Lib.hid hm2;have HLT:=Lib.hid hlt;have HOL:=Lib.hid hol;have HP2:=Lib.hid hp2;have HS2:=Lib.hid hs2
     clear ht hpp hX1 hXi hm hm2 hlt hp2 hs2
     go_upto_region 14 with (go_at_call 112;refine (HT.out _ HBR.out HC8.out hc8 hla).mono ?_;rintro e w5 ⟨A5,c5,og,rfl,hb5,hB5⟩;simp only at hB5)
     have hen5:=HEN.out.below (fun k hk=>hb5.block k hk)
     have hby:=(hB5 trivial).lower HBR.out.size
     have hfr:∀ g,og = some g → ∀ j:Nat,ogs[j]? ≠ some (some g):=fun g hg j hj=>by
      have h1:=HEN.out.low j g hj
      have h2:=(hB5 trivial).base_le g hg
      omega
     have hb6:=below_then HBR.out HBR.out.size hb5
     obtain ⟨A5',c5',he5,hc5,hC5⟩:=hby.reads
     injection he5 with he51 he52 he53
     subst he51;subst he53
     skip
     have HE5:=Lib.hid hen5;have HBY:=Lib.hid hby;have HFR:=Lib.hid hfr;have HB6:=Lib.hid hb6;have HC5:=Lib.hid hC5;have HHC:=Lib.hid hc5
     have hrow5:w5.ownsRow w.heap.size 25 1 (.slice A7 i c7) i vs:=by have:=HE5.out.row;rwa [hol] at this
     have HROW:=Lib.hid hrow5;have HSZ5:=Lib.hid hb5.size
     clear hen5 hby hfr hb6 hC5 hb5 hB5 hc5 hrow5
     go_wp2_with (at_builtin;refine wpList_append_own _ rfl _ _ 46 rfl w.heap.size 25 i0 (.slice none 0 0) 1 24 Tryz.underlying46 hi0 hz0 hz1 hz2 rfl (by decide) _ _ _ rfl (own_alloc HROW.out _) ⟨w5.heap.size,0,none⟩ 1 1 [.slice A5 s.length c5] rfl (by simp) (cell_one_new _ _ _) (by simp [Value.oneCell']) (by unfold maxLen;omega) (by omega) (Nat.le_trans HB6.out.size (by simp)) ?_;intro v7 w7 hown7 hgrow7 hnil7)
     obtain ⟨A9,c9,rfl⟩:=own_slice hown7
     have hbal:=below_alloc (Below.refl w5.heap.size w5) (.cells #[.slice A5 s.length c5] 25)
     have hE7:=EntX.push (og:=og) (s:=s) (HE5.out.below (fun k hk=>hbal.block k hk)) (Nat.le_trans HSZ5.out hbal.size) (HBY.out.keep (fun g hg=>hbal.block g (HBY.out.lt g hg))) HFR.out (by rw [hol];exact hown7) hgrow7
     have hb7:Below w.heap.size w _:=(below_alloc HB6.out (.cells #[.slice A5 s.length c5] 25)).grown hgrow7 (by simp;have:=HB6.out.size;omega) (fun k hk=>own_base HROW.out k hk)
     have hC7:Kd.C (Kd.int .u8) w7 A5 s.length s:=by
      obtain ⟨u',og',h1,_,h3⟩:=hE7.each out.length (by simp)
      rw [hol,← hvl] at h1
      have hu:(vs ++ [Value.slice A5 s.length c5])[vs.length]? = some (.slice A5 s.length c5):=by simp
      rw [hu] at h1
      injection h1 with h1
      subst h1
      rw [List.getElem_append_right (Nat.le_refl _)] at h3
      simp only [Nat.sub_self,List.getElem_cons_zero] at h3
      obtain ⟨A',c',e,_,hC⟩:=h3.reads
      injection e with e1 _ _
      rw [e1]
      exact hC
     have HE7:=Lib.hid hE7;have HB7:=Lib.hid hb7;have HC7:=Lib.hid hC7
     go_roundw
     case rel=>exact ⟨i + 1,p2,s,A5,c5,vs ++ [.slice A5 s.length c5],ogs ++ [og],out ++ [s],A9,c9,HLT.out,by go_num,rfl,HP2.out,rfl,HHC.out,HS2.out,by rw [List.length_append,HOL.out];rfl,rfl,Lib.hid (by rw [HM2.out];exact HX1.out),HC7,HE7,HB7⟩
     case measure=>have:=HLT.out;simp [intOf];omega
    ·rw [if_pos he2] at hX1
     have heb:(e2 == 0) = false:=by simpa using he2
     have HX1:=Lib.hid hX1;have HE2:=Lib.hid he2
     clear ht hpp hX1 hXi hm hm2
     go_wp2_with (go_at_call 112;refine (HT.out _ HBR.out HC8.out hc8 hla).mono ?_;rintro e w5 ⟨A5,c5,og,rfl,hb5,_⟩)
     go_ret2
     have hrr:=HRR.out
     rw [← HX1.out,if_pos HE2.out] at hrr
     subst hrr
     exact ⟨_,rfl,below_then HBR.out HBR.out.size hb5,EntB.nil _ _⟩
   ·rw [decide_eq_false h16] at hX1
    have hr1:¬ (i:Int) % 16 = 0:=by omega
    have hr2:¬ Int.tmod (i:Int) 16 = 0:=by rw [Int.tmod_eq_emod_of_nonneg (by omega)];exact hr1
    have hr3:((i:Int) % 16 == 0) = false:=by simpa using hr1
    have hr4:(Int.tmod (i:Int) 16 == 0) = false:=by simpa using hr2
    have ht:=HTX.out p hp A8 c8 la
    have hpp:=HPL.out p la false
    generalize preText b p la false = r at *
    obtain ⟨s,p2,e2⟩:=r
    simp only at ht hpp hX1
    have HT:=Lib.hid ht
    by_cases he2:e2 = 0
    ·subst he2
     rw [if_neg (by decide)] at hX1
     obtain ⟨hp2,hs2⟩:=hpp rfl
     obtain ⟨i0,hi0,hz0,hz1,hz2⟩:=info_parts info25
     have hvl:vs.length = i:=by have:=HEN.out.row.1;omega
     have HX1:=Lib.hid hX1;have HM2:=Lib.hid hm2;have HLT:=Lib.hid hlt;have HOL:=Lib.hid hol;have HP2:=Lib.hid hp2;have HS2:=Lib.hid hs2
     clear ht hpp hX1 hXi hm hm2 hlt hp2 hs2
     go_upto_region 14 with (go_at_call 112;refine (HT.out _ HBR.out HC8.out hc8 hla).mono ?_;rintro e w5 ⟨A5,c5,og,rfl,hb5,hB5⟩;simp only at hB5)
     have hen5:=HEN.out.below (fun k hk=>hb5.block k hk)
     have hby:=(hB5 trivial).lower HBR.out.size
     have hfr:∀ g,og = some g → ∀ j:Nat,ogs[j]? ≠ some (some g):=fun g hg j hj=>by
      have h1:=HEN.out.low j g hj
      have h2:=(hB5 trivial).base_le g hg
      omega
     have hb6:=below_then HBR.out HBR.out.size hb5
     obtain ⟨A5',c5',he5,hc5,hC5⟩:=hby.reads
     injection he5 with he51 he52 he53
     subst he51;subst he53
     skip
     have HE5:=Lib.hid hen5;have HBY:=Lib.hid hby;have HFR:=Lib.hid hfr;have HB6:=Lib.hid hb6;have HC5:=Lib.hid hC5;have HHC:=Lib.hid hc5
     have hrow5:w5.ownsRow w.heap.size 25 1 (.slice A7 i c7) i vs:=by have:=HE5.out.row;rwa [hol] at this
     have HROW:=Lib.hid hrow5;have HSZ5:=Lib.hid hb5.size
     clear hen5 hby hfr hb6 hC5 hb5 hB5 hc5 hrow5
     go_wp2_with (at_builtin;refine wpList_append_own _ rfl _ _ 46 rfl w.heap.size 25 i0 (.slice none 0 0) 1 24 Tryz.underlying46 hi0 hz0 hz1 hz2 rfl (by decide) _ _ _ rfl (own_alloc HROW.out _) ⟨w5.heap.size,0,none⟩ 1 1 [.slice A5 s.length c5] rfl (by simp) (cell_one_new _ _ _) (by simp [Value.oneCell']) (by unfold maxLen;omega) (by omega) (Nat.le_trans HB6.out.size (by simp)) ?_;intro v7 w7 hown7 hgrow7 hnil7)
     obtain ⟨A9,c9,rfl⟩:=own_slice hown7
     have hbal:=below_alloc (Below.refl w5.heap.size w5) (.cells #[.slice A5 s.length c5] 25)
     have hE7:=EntX.push (og:=og) (s:=s) (HE5.out.below (fun k hk=>hbal.block k hk)) (Nat.le_trans HSZ5.out hbal.size) (HBY.out.keep (fun g hg=>hbal.block g (HBY.out.lt g hg))) HFR.out (by rw [hol];exact hown7) hgrow7
     have hb7:Below w.heap.size w _:=(below_alloc HB6.out (.cells #[.slice A5 s.length c5] 25)).grown hgrow7 (by simp;have:=HB6.out.size;omega) (fun k hk=>own_base HROW.out k hk)
     have hC7:Kd.C (Kd.int .u8) w7 A5 s.length s:=by
      obtain ⟨u',og',h1,_,h3⟩:=hE7.each out.length (by simp)
      rw [hol,← hvl] at h1
      have hu:(vs ++ [Value.slice A5 s.length c5])[vs.length]? = some (.slice A5 s.length c5):=by simp
      rw [hu] at h1
      injection h1 with h1
      subst h1
      rw [List.getElem_append_right (Nat.le_refl _)] at h3
      simp only [Nat.sub_self,List.getElem_cons_zero] at h3
      obtain ⟨A',c',e,_,hC⟩:=h3.reads
      injection e with e1 _ _
      rw [e1]
      exact hC
     have HE7:=Lib.hid hE7;have HB7:=Lib.hid hb7;have HC7:=Lib.hid hC7
     go_roundw
     case rel=>exact ⟨i + 1,p2,s,A5,c5,vs ++ [.slice A5 s.length c5],ogs ++ [og],out ++ [s],A9,c9,HLT.out,by go_num,rfl,HP2.out,rfl,HHC.out,HS2.out,by rw [List.length_append,HOL.out];rfl,rfl,Lib.hid (by rw [HM2.out];exact HX1.out),HC7,HE7,HB7⟩
     case measure=>have:=HLT.out;simp [intOf];omega
    ·rw [if_pos he2] at hX1
     have heb:(e2 == 0) = false:=by simpa using he2
     have HX1:=Lib.hid hX1;have HE2:=Lib.hid he2
     clear ht hpp hX1 hXi hm hm2
     go_wp2_with (go_at_call 112;refine (HT.out _ HBR.out HC8.out hc8 hla).mono ?_;rintro e w5 ⟨A5,c5,og,rfl,hb5,_⟩)
     go_ret2
     have hrr:=HRR.out
     rw [← HX1.out,if_pos HE2.out] at hrr
     subst hrr
     exact ⟨_,rfl,below_then HBR.out HBR.out.size hb5,EntB.nil _ _⟩
  ·obtain rfl:i = n:=by omega
   have hX1:=hXi.out
   rw [Nat.sub_self,decPreL] at hX1
   subst hX1
   have hrr:=HRR.out
   simp only at hrr
   rw [if_neg (by decide)] at hrr
   by_cases hpb:p < b.length
   ·rw [if_pos hpb] at hrr
    have hpi:(p:Int) < (b.length:Int):=by omega
    subst hrr
    clear hXi HRR HX
    go_wp2
    go_ret2
    exact ⟨_,rfl,HBR.out,EntB.nil _ _⟩
   ·rw [if_neg hpb] at hrr
    have hpi:decide ((p:Int) < (b.length:Int)) = false:=by simp;omega
    have hpn:b.length ≤ p:=by omega
    subst hrr
    clear hXi HRR HX
    go_wp2
    go_ret2
    exact ⟨_,rfl,HBR.out,HEN.out.entB⟩
theorem decPre_len {b:List Int} (hb:Bys b):(decPre b).1.length ≤ 4096:=by
 by_cases h:(decPre b).2 = 0
 ·exact (encPre_dec hb h).2.2
 ·rw [decPre_err h];simp
theorem cells_ok_prefix {kind:Int}:CellsOk kind 5:=by
 intro b n hb h c hc
 unfold cellsD at h hc
 rw [if_neg (by decide),if_neg (by decide),if_neg (by decide),if_neg (by decide)] at h hc
 obtain ⟨h1,h2,h3⟩:=asMany_ok h
 rw [h3] at hc
 obtain ⟨s,hs,rfl⟩:=List.mem_map.1 hc
 exact ofText_ok (decPre_bys hb s hs) ((encPre_dec hb h1).2.1 s hs)
set_option maxRecDepth 100000 in
set_option maxHeartbeats 1000000 in
theorem reads_prefix (kind:Int):ReadsBody kind 5:=by
 intro A c b n w h hc hb hl hn
 have hd:=preDec_any A c b w h hc hb hl
 have hlen:=decPre_len hb
 have hcd:cellsD kind 5 b n = asMany ((decPre b).1.map ofText) (decPre b).2 n:=by unfold cellsD;rw [if_neg (by decide),if_neg (by decide),if_neg (by decide),if_neg (by decide)]
 rw [hcd]
 clear hcd
 generalize decPre b = r at *
 obtain ⟨es,er⟩:=r
 simp only at hd hlen ⊢
 have hf:=fun (w1:World) (v:Value) (h1:Below w.heap.size w w1) (h2:EntB w1 w.heap.size v es)=>fromT_any er h1 h2 hlen
 generalize es.map ofText = cs at *
 have HD:=Lib.hid hd;have HF:=Lib.hid hf
 clear h hb hd hf
 by_cases he:er = 0
 ·subst he
  by_cases hm:cs.length = n
  ·have hX:asMany cs 0 n = (cs,0):=asMany_self cs n hm
   rw [hX]
   subst hm
   clear hX
   go_enter Tryz.func41,Tryz.ntmps41
   go_wp2_with (first
    | (go_at_call 71;refine HD.out.mono ?_;rintro e w1 ⟨v1,rfl,hb1,hE1⟩)
    | (go_at_call 69;refine (HF.out _ _ hb1 hE1).mono ?_;rintro e w2 ⟨A2,c2,rfl,hb2,hC2⟩;have HC2:=Lib.hid hC2;clear hC2 hE1))
   go_ret2
   exact ⟨_,rfl,hb2,fun _=>HC2.out⟩
  ·have hX:asMany cs 0 n = ([],5):=by unfold asMany;rw [if_neg (by decide),if_pos hm]
   rw [hX]
   have hmi:¬ (cs.length:Int) = (n:Int):=by omega
   have hmb:((cs.length:Int) == (n:Int)) = false:=by simpa using hmi
   clear hX
   go_enter Tryz.func41,Tryz.ntmps41
   go_wp2_with (first
    | (go_at_call 71;refine HD.out.mono ?_;rintro e w1 ⟨v1,rfl,hb1,hE1⟩)
    | (go_at_call 69;refine (HF.out _ _ hb1 hE1).mono ?_;rintro e w2 ⟨A2,c2,rfl,hb2,hC2⟩;have HC2:=Lib.hid hC2;clear hC2 hE1))
   go_ret2
   exact ⟨_,rfl,hb2,fun h=>absurd h (by decide)⟩
 ·have hX:asMany cs er n = ([],er):=by unfold asMany;rw [if_pos he]
  rw [hX]
  have heb:(er == 0) = false:=by simpa using he
  clear hX
  go_enter Tryz.func41,Tryz.ntmps41
  go_wp2_with (first
   | (go_at_call 71;refine HD.out.mono ?_;rintro e w1 ⟨v1,rfl,hb1,hE1⟩)
   | (go_at_call 69;refine (HF.out _ _ hb1 hE1).mono ?_;rintro e w2 ⟨A2,c2,rfl,hb2,hC2⟩;have HC2:=Lib.hid hC2;clear hC2 hE1))
  go_ret2
  exact ⟨_,rfl,hb2,fun h=>absurd h he⟩
theorem reads_any {kind codec:Int} (hk:GoodKind kind) (hf:fitsC kind codec):ReadsBody kind codec:=by
 rcases hf with rfl | ⟨_,rfl | rfl⟩ | ⟨_,rfl | rfl⟩
 ·exact reads_plain hk
 ·exact reads_runs kind
 ·exact reads_packed kind
 ·exact reads_dict kind
 ·exact reads_prefix kind
theorem cells_ok_any {kind codec:Int} (hf:fitsC kind codec):CellsOk kind codec:=by
 rcases hf with rfl | ⟨_,rfl | rfl⟩ | ⟨_,rfl | rfl⟩
 ·exact cells_ok_plain
 ·exact cells_ok_runs
 ·exact cells_ok_packed
 ·exact cells_ok_dict
 ·exact cells_ok_prefix
theorem bdec_any (kind:Int) (A:Option Addr) (c:Nat) (b:List Int) (w:World) (h:Kd.C (Kd.int .u8) w A b.length b) (hc:b.length ≤ c) (hb:Bys b) :
  Calls Tryz.prog 19 #[.int .i64 kind,.slice A b.length c] w (DecMade w (decBlk kind b).1 (decBlk kind b).2):=by
 by_cases hk:GoodKind kind
 ·exact bdec_with kind A c b w h hc hb (fun hf=>reads_any hk hf) (fun hf=>cells_ok_any hf)
 ·have h1:kind < 1 ∨ 8 < kind:=by unfold GoodKind at hk;omega
  have hd:decBlk kind b = ([],1):=by unfold decBlk;rw [if_pos h1]
  have h2:=bdec_bad kind A c b w h1
  rw [hd]
  exact h2
theorem decIn_oks {kind:Int} {b:List Int} (hb:Bys b) (h:(decIn kind b).2 = 0):∀ c ∈ (decIn kind b).1,CelOk c:=by
 unfold decIn at h ⊢
 by_cases c0:b.length = 0
 ·rw [if_pos c0] at h;exact absurd h (by decide)
 rw [if_neg c0] at h ⊢
 by_cases c1:fitsC kind (b.getD 0 0)
 rotate_left
 ·rw [if_pos c1] at h;exact absurd h (by decide)
 rw [if_neg (fun x=>x c1)] at h ⊢
 by_cases c2:(vget b 1).2.2 = 0
 rotate_left
 ·rw [if_pos c2] at h;exact absurd h c2
 rw [if_neg (fun x=>x c2)] at h ⊢
 by_cases c3:4096 < (vget b 1).1
 ·rw [if_pos c3] at h;exact absurd h (by decide)
 rw [if_neg c3] at h ⊢
 generalize nullsD b (vget b 1).2.1 (vget b 1).1 = r at *
 by_cases c4:r.2.2 = 0
 rotate_left
 ·rw [if_pos c4] at h;exact absurd h c4
 rw [if_neg (fun x=>x c4)] at h ⊢
 have hco:=fun hh=>cells_ok_any c1 (b.drop r.2.1) (zerosN r.1) (hb.drop _) hh
 generalize cellsD kind (b.getD 0 0) (b.drop r.2.1) (zerosN r.1) = d at *
 by_cases c5:d.2 = 0
 rotate_left
 ·rw [if_pos c5] at h;exact absurd h c5
 rw [if_neg (fun x=>x c5)] at h ⊢
 by_cases c6:checkCs kind (mergeC r.1 d.1) = 0
 rotate_left
 ·rw [if_pos c6] at h;exact absurd h c6
 rw [if_neg (fun x=>x c6)]
 exact merge_ok (hco c5)
theorem decBlk_oks {kind:Int} {b:List Int} (hb:Bys b) (h:(decBlk kind b).2 = 0):∀ c ∈ (decBlk kind b).1,CelOk c:=by
 unfold decBlk at h ⊢
 by_cases h1:kind < 1 ∨ 8 < kind
 ·rw [if_pos h1] at h;exact absurd h (by decide)
 rw [if_neg h1] at h ⊢
 by_cases h2:65000 < b.length
 ·rw [if_pos h2] at h;exact absurd h (by decide)
 rw [if_neg h2] at h ⊢
 by_cases h3:sealedS b = false
 ·rw [if_pos h3] at h;exact absurd h (by decide)
 rw [if_neg h3] at h ⊢
 exact decIn_oks (hb.take _) h
end Go.Proofs.YteeikgjjgfdjgaaGreat.PK
end
section
namespace Go.Proofs.YteeikgjjgfdjgaaGreat.PK
open Go.RowKit Go.Maps Go.Proofs.YteeikgjjgfdjgaaGreatW.PrintWords Go.Proofs.YteeikgjjgfdjgaaGreatW.PrintLast Go.Proofs.YteeikgjjgfdjgaaGreatW.PrintMore
set_option linter.unusedVariables false
set_option linter.unusedSimpArgs false
set_option maxHeartbeats 4000000 in
set_option maxRecDepth 100000 in
theorem blockonly_any (kind:Int) (A:Option Addr) (c:Nat) (b:List Int) (w:World) (hr:Kd.C (Kd.int .u8) w A b.length b) (hc:b.length ≤ c) (hb:Bys b) (hl:b.length ≤ 140737488351232) :
  Calls Tryz.prog 7 #[.int .i64 kind,.slice A b.length c] w fun e w'=>e = .returned (.bool true) ∧ Hold w.heap.size w w':=by
 obtain ⟨kp,hkp⟩:=(copy_ev b (by omega)).ex
 obtain ⟨ks,hks⟩:=(same_ev b (by omega)).ex
 have hdec:=fun (A:Option Addr) (c:Nat) (w:World) (h:Kd.C (Kd.int .u8) w A b.length b) (hc:b.length ≤ c)=>bdec_any kind A c b w h hc hb
 have hok:=fun h=>decBlk_ok (kind:=kind) hb h
 have hoks:=fun h=>decBlk_oks (kind:=kind) hb h
 generalize decBlk kind b = r at *
 obtain ⟨cs,er⟩:=r
 simp only at hdec hok hoks
 have HD:=Lib.hid hdec;have HR:=Lib.hid hr;have HKP:=Lib.hid hkp;have HKS:=Lib.hid hks
 by_cases he:er = 0
 ·subst he
  obtain ⟨hen,h5⟩:=hok rfl
  have hco:=hoks rfl
  have henc:=fun (A:Option Addr) (c:Nat) (w:World) (hr:Kd.C k53 w A cs.length cs) (hc:cs.length ≤ c)=>blkEnc_any (kind:=kind) (codec:=b.getD 0 0) hco hr hc (fun hf=>body_any hf hr hc)
  rw [hen] at henc
  obtain ⟨ad,rfl,hx0⟩:=Kd.at_int hr (0:Int) (by omega) (by omega)
  have a0:ad.add 0 = ad:=by simp [Addr.add]
  rw [show rd b (0:Int) = b.getD 0 0 from rfl,show (0:Int).toNat = 0 from rfl,a0] at hx0
  have hx9:=fun (W:World) (hb9:Below w.heap.size w W)=>(hb9.cell (World.block_lt_of_cell? w _ hx0)).trans hx0
  have hxb:0 ≤ b.getD 0 0 ∧ b.getD 0 0 < 256:=by
   rw [List.getD_eq_getElem?_getD,List.getElem?_eq_getElem (show 0 < b.length by omega)]
   exact hb _ (List.getElem_mem (by omega))
  have hwx:IntKind.i64.wrap (b.getD 0 0) = b.getD 0 0:=wraps_i64 _ (by omega) (by omega)
  have hpos:(0:Int) < (b.length:Int):=by omega
  have hpos2:0 < b.length:=by omega
  have h5i:decide ((b.length:Int) < 5) = false:=by simp;omega
  generalize b.getD 0 0 = x at *
  have HE:=Lib.hid henc;have HX:=Lib.hid hx9
  clear hr hb hkp hks hdec hok hoks hen hco henc hx9 hx0
  go_enter Tryz.func7,Tryz.ntmps7
  go_upto_region 4 with (first
   | (go_at_call 9;refine (alive_any _).mono ?_;rintro e w1 ⟨rfl,hb1⟩)
   | (go_at_call 24;refine (stoaref01_Copy.calls kp _ c b b _ (Kd.C_below HR.out hb1) hc HKP.out).mono ?_;rintro e w2 ⟨v2,rfl,hR2,hb2⟩;obtain ⟨A2,c2,rfl,hc2,hC2⟩:=Kd.R_reads hR2;have hB2:=below_then hb1 hb1.size hb2)
   | (go_at_call 19;refine (HD.out A2 c2 _ hC2 hc2).mono ?_;rintro e w3 ⟨v3,rfl,hb3,hq3,_⟩;obtain ⟨A3,c3,rfl,hc3,hC3⟩:=(hq3 rfl).reads;have hB3:=below_then hB2 hB2.size hb3))
  have HC3:=Lib.hid hC3;have HB3:=Lib.hid hB3
  have hx3:=HX.out _ hB3
  clear hb1 hR2 hb2 hC2 hB2 hb3 hC3 hB3 hq3
  go_wp2_with (first
   | (go_at_call 11;refine (HE.out A3 c3 _ HC3.out hc3).mono ?_;rintro e w4 ⟨v4,rfl,hR4,hb4⟩;obtain ⟨A4,c4,rfl,hc4,hC4⟩:=Kd.R_reads hR4;have hB4:=below_then HB3.out HB3.out.size hb4)
   | (go_at_call 17;refine (stoaref01_Same.calls ks A4 c4 b _ c b true _ hC4 hc4 (Kd.C_below HR.out hB4) hc HKS.out).mono ?_;rintro e w5 ⟨rfl,hD5⟩))
  go_ret
  exact ⟨rfl,Hold.of_below (below_then hB4 hB4.size hD5.below)⟩
 ·have heb:(er == 0) = false:=by simpa using he
  have HEr:=Lib.hid he
  clear hr hb hkp hks hdec hok hoks he
  go_enter Tryz.func7,Tryz.ntmps7
  go_wp2_with (first
   | (go_at_call 9;refine (alive_any _).mono ?_;rintro e w1 ⟨rfl,hb1⟩)
   | (go_at_call 24;refine (stoaref01_Copy.calls kp A c b b _ (Kd.C_below HR.out hb1) hc HKP.out).mono ?_;rintro e w2 ⟨v2,rfl,hR2,hb2⟩;obtain ⟨A2,c2,rfl,hc2,hC2⟩:=Kd.R_reads hR2;have hB2:=below_then hb1 hb1.size hb2)
   | (go_at_call 19;refine (HD.out A2 c2 _ hC2 hc2).mono ?_;rintro e w3 ⟨v3,rfl,hb3,_,hv3⟩;obtain rfl:=hv3 HEr.out;have hB3:=below_then hB2 hB2.size hb3))
  go_ret
  exact ⟨rfl,Hold.of_below hB3⟩
end Go.Proofs.YteeikgjjgfdjgaaGreat.PK
end
