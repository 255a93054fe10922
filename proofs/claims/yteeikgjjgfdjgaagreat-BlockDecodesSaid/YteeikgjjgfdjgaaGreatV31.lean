/-
  Parts of the proof: Ye, Ya, Yb, Yc, Za.
-/
import Derived.Test.YteeikgjjgfdjgaaGreatV30
import Derived.Test.YteeikgjjgfdjgaaGreatV25
set_option maxHeartbeats 2000000
set_option maxRecDepth 100000
section
namespace Go.Proofs.YteeikgjjgfdjgaaGreat.PK
open Go.RowKit YteeikgjjgfdjgaaGreatW.PrintWords YteeikgjjgfdjgaaGreatW.PrintLast YteeikgjjgfdjgaaGreatW.PrintMore
set_option linter.unusedVariables false
set_option linter.unusedSimpArgs false
theorem pk_room {y:Int} (h:I64 y):IntKind.u64.wrap (9223372036854775807-IntKind.u64.wrap y)=9223372036854775807-y:=by
 obtain⟨h1,h2⟩:=h
 rw[IntKind.wrap_u64,IntKind.wrap_u64];omega
theorem pk_sum {y d:Int} (h:I64 y) (h0:0≤d) (h1:¬ 9223372036854775807-y<d):IntKind.i64.wrap (IntKind.u64.wrap (IntKind.u64.wrap y+d))=y+d:=by
 obtain⟨h2,h3⟩:=h
 have e1:IntKind.u64.wrap (IntKind.u64.wrap y+d)=(y+d)%18446744073709551616:=by rw[IntKind.wrap_u64,IntKind.wrap_u64];omega
 rw[e1,IntKind.wrap_i64]
 omega
theorem pkDec_any (A:Option Addr) (c:Nat) (b:List Int) (w:World) (h:Kd.C (Kd.int .u8) w A b.length b) (hc:b.length≤c) (hb:Bys b) (hl:b.length≤65000) :
  Calls Tryz.prog 68 #[.slice A b.length c] w (yll w (yet b).1 (yet b).2):=by
 have hg0:=yfn h hc hb (by omega) (Nat.zero_le _) w (Below.refl _ _)
 have hgp:=fun(p:Nat) (hp:p≤b.length)=>yfn h hc hb (by omega) hp
 have hle0:=fun h=>ycp hb (p:=0) h
 unfold yet
 rw[show(((0:Nat):Int))=0 from rfl] at hg0
 have hlt:=fun h=>ydz (p:=0) hb h
 generalize hv0:vget b 0=r0 at *
 obtain⟨n,q,e0⟩:=r0
 simp only at hg0 hle0 hlt ⊢
 by_cases he:e0=0
 rotate_left
 ·rw[if_pos he]
  have heb:(e0 == 0)=false:=by simpa using he
  have HG:=Lib.hid hg0
  clear h hb hgp hg0 hle0 hlt hv0
  go_enter Tryz.func68,Tryz.ntmps68
  go_wp2_with (go_at_call 39;refine(HG.out).mono ?_;rintro e w1 ⟨rfl,⟨m1,rfl⟩⟩)
  go_ret2
  exact⟨_,rfl,Kd.R_nil _ _ _ _ _,yab (Below.refl _ _) _⟩
 subst he
 rw[if_neg (by decide)]
 have hle:=hle0 rfl
 have hn64:=hlt rfl
 by_cases hn:4096<n
 ·rw[if_pos hn]
  have hi:(4096:Int)<(n:Int):=by omega
  have HG:=Lib.hid hg0
  clear h hb hgp hg0 hle0 hlt hv0
  go_enter Tryz.func68,Tryz.ntmps68
  go_wp2_with (go_at_call 39;refine(HG.out).mono ?_;rintro e w1 ⟨rfl,⟨m1,rfl⟩⟩)
  go_ret2
  exact⟨_,rfl,Kd.R_nil _ _ _ _ _,yab (Below.refl _ _) _⟩
 rw[if_neg hn]
 have hi:decide ((4096:Int)<(n:Int))=false:=by simp;omega
 have hi3:n≤4096:=by omega
 by_cases hz:n=0
 ·subst hz
  rw[if_pos rfl]
  have HG:=Lib.hid hg0
  by_cases hq:q<b.length
  ·rw[if_pos hq]
   have hqi:(q:Int)<(b.length:Int):=by omega
   clear h hb hgp hg0 hle0 hlt hv0
   go_enter Tryz.func68,Tryz.ntmps68
   go_wp2_with (go_at_call 39;refine(HG.out).mono ?_;rintro e w1 ⟨rfl,⟨m1,rfl⟩⟩)
   go_ret2
   exact⟨_,rfl,Kd.R_nil _ _ _ _ _,yab (Below.refl _ _) _⟩
  ·rw[if_neg hq]
   have hqi:decide ((q:Int)<(b.length:Int))=false:=by simp;omega
   have hqn:b.length≤q:=by omega
   clear h hb hgp hg0 hle0 hlt hv0
   go_enter Tryz.func68,Tryz.ntmps68
   go_wp2_with (go_at_call 39;refine(HG.out).mono ?_;rintro e w1 ⟨rfl,⟨m1,rfl⟩⟩)
   go_ret2
   exact⟨_,rfl,Kd.R_nil _ _ _ _ _,yab (Below.refl _ _) _⟩
 rw[if_neg hz]
 have hzb:((n:Int) == 0)=false:=by simp;omega
 have hzd:¬ (n:Int)=0:=by omega
 have hzn:0<n:=by omega
 have hg1:=hgp q hle.1
 have hl1:=fun h=>ycp hb (p:=q) h
 have hs1:=fun h=>ydz (p:=q) hb h
 have hqle:=hle.1
 generalize vget b q=r1 at *
 obtain⟨u,q2,e1⟩:=r1
 simp only at hg1 hl1 hs1 ⊢
 by_cases he1:e1=0
 rotate_left
 ·rw[if_pos he1]
  have heb:(e1 == 0)=false:=by simpa using he1
  have HG:=Lib.hid hg0;have HG1:=Lib.hid hg1
  clear h hb hgp hg0 hle0 hlt hv0 hg1 hl1 hs1
  go_enter Tryz.func68,Tryz.ntmps68
  go_upto_region 10 with (go_at_call 39;refine(HG.out).mono ?_;rintro e w1 ⟨rfl,⟨m1,rfl⟩⟩)
  go_wp2_with (go_at_call 39;refine(HG1.out _ (by repeat (first|exact Below.refl _ _|apply yab))).mono ?_;rintro e w2 ⟨rfl,⟨m2,rfl⟩⟩)
  go_ret2
  exact⟨_,rfl,Kd.R_nil _ _ _ _ _,by repeat (first|exact Below.refl _ _|apply yab)⟩
 subst he1
 rw[if_neg (by decide)]
 have hq2:=(hl1 rfl).1
 have hu64:=hs1 rfl
 rw[yp9 hq2]
 have hok:(yfl (b.drop q2) 0 n).2=0→∃ us w,yfl (b.drop q2) 0 n=(us,0)∧us.length=n∧w≤64∧Fit w us:=fun h=>by
  obtain⟨us,w,h1,h2,h3,_,h4,_⟩:=yo2 (hb.drop q2) h
  exact⟨us,w,h1,h2,h3,h4⟩
 obtain⟨B1,hcut1,hB1,hcc1⟩:=ygt A c b q2 hq2 hc
 have hdc:=fun(w2:World) (hb2:Below w.heap.size w w2)=>dist_any B1 (c-q2) (b.drop q2) n w2 (by rw[List.length_drop];exact hB1 w2 (Kd.C_below h hb2)) (by rw[List.length_drop];exact hcc1) (hb.drop q2) (by rw[List.length_drop];omega) hi3
 rw[List.length_drop] at hdc
 have hnw:IntKind.i64.wrap (n:Int)=(n:Int):=ydm _ (by omega) (by omega)
 have hq2i:(q2:Int)≤(b.length:Int):=by omega
 generalize yfl (b.drop q2) 0 n=dr at *
 obtain⟨us,e2⟩:=dr
 simp only at hdc hok ⊢
 have HG:=Lib.hid hg0;have HG1:=Lib.hid hg1;have HD:=Lib.hid hdc
 by_cases he2:e2=0
 rotate_left
 ·rw[if_pos he2]
  have heb:(e2 == 0)=false:=by simpa using he2
  clear h hb hgp hg0 hle0 hlt hv0 hg1 hl1 hs1 hB1 hdc hok
  go_enter Tryz.func68,Tryz.ntmps68
  go_upto_region 10 with (go_at_call 39;refine(HG.out).mono ?_;rintro e w1 ⟨rfl,⟨m1,rfl⟩⟩)
  go_upto_region 13 with (go_at_call 39;refine(HG1.out _ (by repeat (first|exact Below.refl _ _|apply yab))).mono ?_;rintro e w2 ⟨rfl,⟨m2,rfl⟩⟩)
  go_wp2_with (go_at_call 108;refine(HD.out _ (by repeat (first|exact Below.refl _ _|apply yab))).mono ?_;rintro e w3 ⟨v3,rfl,hb3,_⟩;have hb3':=(fun(hx:Below w.heap.size w _)=>yae hx hx.size hb3) (by repeat (first|exact Below.refl _ _|apply yab)))
  go_ret2
  exact⟨_,rfl,Kd.R_nil _ _ _ _ _,hb3'⟩
 subst he2
 rw[if_neg (by decide)]
 obtain⟨us',wd,h1,hul,hw64,hfit⟩:=hok rfl
 obtain rfl:us=us':=congrArg Prod.fst h1
 have hun:=yjk hu64
 have hyI:=ygv hu64
 generalize ycy u=y at *
 obtain⟨L,hL⟩:∃ L,L=us.map fun d=>y+d:=⟨_,rfl⟩
 have hLl:L.length=n:=by rw[hL,List.length_map,hul]
 have hat:∀ (k:Nat) (hk:k<us.length),¬ 9223372036854775807-y<us[k]→L[k]?=some (IntKind.i64.wrap (IntKind.u64.wrap (IntKind.u64.wrap y+us[k]))):=fun k hk hn=>by
  have h0:=(hfit _ (List.getElem_mem hk)).1
  rw[pk_sum hyI h0 hn,hL]
  simp [hk]
 have hroom:=pk_room hyI
 have hab:yfp y us=if ∃ d∈us,9223372036854775807-y<d then ([],5) else (L,0):=by unfold yfp;rw[hL]
 obtain⟨X,hX⟩:∃ X,X=yfp y us:=⟨_,rfl⟩
 rw[← hX] at hab ⊢
 have HAT:=Lib.hid hat;have HX:=Lib.hid hab;have HUN:=Lib.hid hun;have HRM:=Lib.hid hroom
 have hmk:=fun W=>run_make_row' (P:=Tryz.prog) 94 2 (.int .i64 0) 8 Tryz.underlying94 yjs rfl .u64 .u64 n (by omega) (by omega) W
 clear h hb hgp hg0 hle0 hlt hv0 hg1 hl1 hs1 hB1 hdc hok h1 hun hyI hfit hL hat hab hroom hu64 hX
 subst hul
 go_enter Tryz.func68,Tryz.ntmps68
 go_upto_region 10 with (go_at_call 39;refine(HG.out).mono ?_;rintro e w1 ⟨rfl,⟨m1,rfl⟩⟩)
 go_upto_region 13 with (go_at_call 39;refine(HG1.out _ (by repeat (first|exact Below.refl _ _|apply yab))).mono ?_;rintro e w2 ⟨rfl,⟨m2,rfl⟩⟩)
 go_upto_region 16 with (go_at_call 108;refine(HD.out _ (by repeat (first|exact Below.refl _ _|apply yab))).mono ?_;rintro e w3 ⟨v3,rfl,hb3,hR3⟩;have hb3':=(fun(hx:Below w.heap.size w _)=>yae hx hx.size hb3) (by repeat (first|exact Below.refl _ _|apply yab));have hR3':=(fun(hx:Below w.heap.size w _)=>Kd.R_lower (hR3 rfl) hx.size) (by repeat (first|exact Below.refl _ _|apply yab));obtain⟨A3,c3,rfl,hc3,hC3⟩:=Kd.R_reads hR3';clear hb3 hR3)
 go_upto_region 17 with (go_at_call 105;refine(yfd.calls _ _ _ HUN.out).mono ?_;rintro e w6 ⟨rfl,⟨m6,rfl⟩⟩)
 have hb6:=yab hb3' m6
 have hO6:=Kd.own_of_R (Kd.R_drewN hR3' m6)
 generalize w3.drewN m6=wr at *
 have hRM:=yil wr w.heap.size 2 .i64 us.length hb6.size (by omega)
 have hBM:Below w.heap.size w (wr.alloc (.cells (madeCells #[.int .i64 0] us.length) 2)):=hb6.alloc hb6.size _
 have hOM:=(yaj (Below.refl wr.heap.size wr) (.cells (madeCells #[.int .i64 0] us.length) 2))
 have hCM:=yey hO6 (fun k hk=>hOM.block k (yft hO6 k hk))
 rw[← hLl,← ylk,hLl] at hRM
 go_upto_region 18 with (fail)
 have HCM:=Lib.hid hCM
 generalize (wr.alloc (.cells (madeCells #[.int .i64 0] us.length) 2))=wy at *
 generalize wr.heap.size=g3 at *
 clear hmk hcut1 hb6 hb3' hO6 hC3 hCM hR3' hOM HG HG1 HD HUN
 go_wp2
 go_loopw [11,12,66] (fun _ _ vi wq=>∃ k:Nat,k≤us.length∧vi=.int .i64 k∧RowKit.Hid (∀ (j:Nat) (hj:j<us.length),j<k→¬ 9223372036854775807-y<us[j])∧RowKit.Hid (wq.ownsRow w.heap.size 2 1 (.slice (some ⟨g3,0,none⟩) us.length us.length) us.length (nums .i64 (usd L k)))∧RowKit.Hid (wq.ownsRow w.heap.size 63 1 (.slice A3 us.length c3) us.length (nums .u64 us))∧RowKit.Hid (Below w.heap.size w wq)) (fun _ _ vi _=>us.length-(intOf vi).toNat)
 case atStart=>exact⟨0,by omega,rfl,Lib.hid (fun j hj h=>absurd h (Nat.not_lt_zero _)),Lib.hid hRM,HCM,Lib.hid hBM⟩
 case round =>
  obtain⟨k,hk,rfl,HN,HR,HO,HB⟩:=hrel
  have HC:=Lib.hid (Kd.R_reads' (d:=Kd.int .u64) (ok:=fun _=>True) (Kd.R_of_own HO.out (fun _ _=>trivial))).2.2
  by_cases hlt:k<us.length
  ·obtain⟨ad,rfl,hx⟩:=Kd.at_int HC.out (k:Int) (by omega) (by omega)
   rw[ybj hlt,Int.toNat_natCast] at hx
   have hfk:=HAT.out k hlt
   obtain⟨hcc,hfr⟩:=ymh HR.out (k:Int) (by omega) (by omega)
   rw[Int.toNat_natCast] at hcc hfr
   by_cases hbig:9223372036854775807-y<us[k]
   ·have hXe:=HX.out
    rw[if_pos ⟨us[k],List.getElem_mem hlt,hbig⟩] at hXe
    obtain⟨x,hxx⟩:∃ x,x=us[k]:=⟨_,rfl⟩
    rw[← hxx] at hx hbig
    have hrm:=HRM.out
    have hcmp:IntKind.u64.wrap (9223372036854775807-IntKind.u64.wrap y)<x:=by rw[hrm];exact hbig
    clear hbig hrm hxx hfk hcc hfr HX
    subst hXe
    go_wp2
    go_ret2
    exact⟨_,rfl,Kd.R_nil _ _ _ _ _,HB.out⟩
   ·have hf:=hfk (by first|exact hbig|omega)
    have hn1:∀ (j:Nat) (hj:j<us.length),j<k+1→¬ 9223372036854775807-y<us[j]:=fun j hj h=>by
     by_cases e:j=k
     ·subst e;exact hbig
     ·exact HN.out j hj (by omega)
    have HN1:=Lib.hid hn1
    obtain⟨x,hxx⟩:∃ x,x=us[k]:=⟨_,rfl⟩
    rw[← hxx] at hx hbig hf
    have hrm:=HRM.out
    have hcmp:decide (IntKind.u64.wrap (9223372036854775807-IntKind.u64.wrap y)<x)=false:=by rw[hrm];simpa using hbig
    have hcmp2:¬ (IntKind.u64.wrap (9223372036854775807-IntKind.u64.wrap y)<x):=by rw[hrm];exact hbig
    have HF:=Lib.hid hf;have HLT:=Lib.hid hlt
    clear hbig hrm hxx hfk hf hn1 hlt HX
    go_wp2
    go_roundw
    case rel =>
     have hlt:=HLT.out
     have hst:=yix HR.out (k:Int) (IntKind.i64.wrap (IntKind.u64.wrap (IntKind.u64.wrap y+x)))
     rw[Int.toNat_natCast] at hst
     obtain⟨hst1,hst2⟩:=hst
     have he:L[k]'(by omega)=IntKind.i64.wrap (IntKind.u64.wrap (IntKind.u64.wrap y+x)):=by
      have:=HF.out
      rw[List.getElem?_eq_getElem (by omega)] at this
      exact Option.some.inj this
     rw[← he,ymr L k (by omega),he] at hst1
     rw[ybz] at hst1 hst2
     refine⟨k+1,by omega,by go_num,HN1,Lib.hid hst1,Lib.hid (yip HO.out hst2 (yhx HO.out HR.out (by decide))),Lib.hid (HB.out.grown hst2 HB.out.size (fun k' hk'=>?_))⟩
     injection hk' with hk'
     have:=ydp HR.out g3 rfl
     omega
    case measure=>have:=HLT.out;simp [intOf];omega
  ·obtain rfl:k=us.length:=by omega
   have hXe:=HX.out
   rw[if_neg (by rintro⟨d,hd,hd2⟩;obtain⟨j,hj,rfl⟩:=List.mem_iff_getElem.1 hd;exact HN.out j hj hj hd2)] at hXe
   have hR9:=HR.out
   rw[← hLl,ymj,hLl] at hR9
   have hRU:Kd.R (Kd.int .i64) 2 wr w.heap.size (fun _=>True) (.slice (some ⟨g3,0,none⟩) us.length us.length) L:=Kd.R_of_own (by rw[hLl];exact hR9) (fun _ _=>trivial)
   have HRU:=Lib.hid hRU
   clear hR9 hRU HR HN HX
   subst hXe
   go_wp2
   go_ret2
   exact⟨_,rfl,HRU.out,HB.out⟩
theorem ynl {b:List Int} (hb:Bys b):(yet b).1.length≤4096:=by
 by_cases h:(yet b).2=0
 ·exact(ykb hb h).2.2
 ·rw[decPk_err h];simp
theorem yl0 {kind:Int}:yha kind 3:=by
 intro b n hb h c hc
 unfold ybi at h hc
 rw[if_neg (by decide),if_neg (by decide),if_pos rfl] at h hc
 obtain⟨h1,h2,h3⟩:=yf5 h
 rw[h3] at hc
 obtain⟨v,hv,rfl⟩:=List.mem_map.1 hc
 exact yli ((ykb hb h1).2.1 v hv)
theorem yma (kind:Int) (A:Option Addr) (c:Nat) (b:List Int) (n:Nat) (w:World) (h:Kd.C (Kd.int .u8) w A b.length b) (hc:b.length≤c) (hb:Bys b) (hl:b.length≤65000) (hn:n≤4096) :
  Calls Tryz.prog 41 #[.int .i64 kind,.int .i64 3,.slice A b.length c,.int .i64 n] w (yd4 w (ybi kind 3 b n).1 (ybi kind 3 b n).2):=by
 have hd:=pkDec_any A c b w h hc hb hl
 have hlen:=ynl hb
 have hcd:ybi kind 3 b n=ybv ((yet b).1.map yds) (yet b).2 n:=by unfold ybi;rw[if_neg (by decide),if_neg (by decide),if_pos rfl]
 rw[hcd]
 clear hcd
 generalize yet b=r at *
 obtain⟨vs,er⟩:=r
 simp only at hd hlen ⊢
 obtain⟨k,hk⟩:=(yit vs er hlen).ex
 have hml:(vs.map yds).length=vs.length:=List.length_map _
 have hlen2:(vs.map yds).length≤4096:=by omega
 generalize vs.map yds=cs at *
 have HD:=Lib.hid hd;have HK:=Lib.hid hk
 clear h hb hd hk hml hlen
 by_cases he:er=0
 ·subst he
  by_cases hm:cs.length=n
  ·have hX:ybv cs 0 n=(cs,0):=yeu cs n hm
   rw[hX]
   subst hm
   clear hX
   go_enter Tryz.func41,Tryz.ntmps41
   go_upto_region 11 with (first
    | (go_at_call 68;refine HD.out.mono ?_;rintro e w1 ⟨v1,rfl,hR1,hb1⟩;obtain⟨A1,c1,rfl,hc1,hC1⟩:=Kd.R_reads hR1)
    | (go_at_call 66;refine(ybh.calls k A1 c1 vs 0 cs 0 _ hC1 hc1 HK.out).mono ?_;rintro e w2 ⟨v2,rfl,hS2,hb2⟩;obtain⟨A2,c2,rfl,hc2,hC2⟩:=Kd.S_reads hS2))
   have hb3:=yae hb1 hb1.size hb2
   have hS3:=Lib.hid (Kd.S_lower hS2 hb1.size)
   clear hS2 hC2 hR1 hC1
   go_wp2
   go_ret2
   exact⟨_,rfl,hb3,fun _=>CelB.of_S hS3.out⟩
  ·have hX:ybv cs 0 n=([],5):=by unfold ybv;rw[if_neg (by decide),if_pos hm]
   rw[hX]
   have hmi:¬ (cs.length:Int)=(n:Int):=by omega
   have hmb:((cs.length:Int) == (n:Int))=false:=by simpa using hmi
   clear hX
   go_enter Tryz.func41,Tryz.ntmps41
   go_upto_region 11 with (first
    | (go_at_call 68;refine HD.out.mono ?_;rintro e w1 ⟨v1,rfl,hR1,hb1⟩;obtain⟨A1,c1,rfl,hc1,hC1⟩:=Kd.R_reads hR1)
    | (go_at_call 66;refine(ybh.calls k A1 c1 vs 0 cs 0 _ hC1 hc1 HK.out).mono ?_;rintro e w2 ⟨v2,rfl,hS2,hb2⟩;obtain⟨A2,c2,rfl,hc2,hC2⟩:=Kd.S_reads hS2))
   have hb3:=yae hb1 hb1.size hb2
   have hS3:=Lib.hid (Kd.S_lower hS2 hb1.size)
   clear hS2 hC2 hR1 hC1
   go_wp2
   go_ret2
   exact⟨_,rfl,hb3,fun h=>absurd h (by decide)⟩
 ·have hX:ybv cs er n=([],er):=by unfold ybv;rw[if_pos he]
  rw[hX]
  have heb:(er == 0)=false:=by simpa using he
  clear hX
  go_enter Tryz.func41,Tryz.ntmps41
  go_upto_region 11 with (first
   | (go_at_call 68;refine HD.out.mono ?_;rintro e w1 ⟨v1,rfl,hR1,hb1⟩;obtain⟨A1,c1,rfl,hc1,hC1⟩:=Kd.R_reads hR1)
   | (go_at_call 66;refine(ybh.calls k A1 c1 vs er cs er _ hC1 hc1 HK.out).mono ?_;rintro e w2 ⟨v2,rfl,hS2,hb2⟩;obtain⟨A2,c2,rfl,hc2,hC2⟩:=Kd.S_reads hS2))
  have hb3:=yae hb1 hb1.size hb2
  have hS3:=Lib.hid (Kd.S_lower hS2 hb1.size)
  clear hS2 hC2 hR1 hC1
  go_wp2
  go_ret2
  exact⟨_,rfl,hb3,fun h=>absurd h he⟩
theorem yop (kind:Int):yf9 kind 3:=fun A c b n w h hc hb hl hn=>yma kind A c b n w h hc hb hl hn
theorem CelT.below {w w':World} {base:Nat} {v:Value} {ts:List OwnT} (h:CelT w base v ts) (hb:Below w.heap.size w w'):CelT w' base v ts:=h.keep (fun k _ hk=>hb.block k hk)
theorem CelT.og_lt {w:World} {base:Nat} {v:Value} {ts:List OwnT} (h:CelT w base v ts) {t:OwnT} (ht:t∈ts) {g:Nat} (hg:t.og=some g):g<w.heap.size:=(h.each t ht).lt g hg
theorem CelT.snoc {W0 W1 W2:World} {base:Nat} {v v2:Value} {ts:List OwnT} {t:OwnT} (h:CelT W0 base v ts) (h01:∀ g,g<W0.heap.size→some g≠v.ownBlock→W2.heap[g]?=W0.heap[g]?) (hv:∀ t∈ts,∀ g,t.og=some g→some g≠v.ownBlock)
  (hn:∀ g,t.og=some g→W0.heap.size≤g) (ht:Byt W2 base t.og t.u t.c.f2) (hR:Kd.R (Kd.raw 3) 53 W2 base (fun _=>True) v2 ((ts++[t]).map OwnT.row)):CelT W2 base v2 (ts++[t]):=by
 refine⟨fun x hx=>?_,List.pairwise_append.2 ⟨h.apart,by simp,fun a ha b hb g hg hg2=>?_⟩,hR⟩
 ·rcases List.mem_append.1 hx with hx|hx
  ·exact(h.each x hx).keep (fun g hg=>h01 g (h.og_lt hx hg) (hv x hx g hg))
  ·obtain rfl:=List.mem_singleton.1 hx
   exact ht
 ·obtain rfl:=List.mem_singleton.1 hb
  have h1:=h.og_lt ha hg
  have h2:=hn g hg2
  omega
theorem CelT.nil (w:World) (base:Nat):CelT w base (.slice none 0 0) []:=⟨fun t ht=>(by cases ht),List.Pairwise.nil,Kd.R_nil _ _ _ _ _⟩
theorem CelT.slice {w:World} {base:Nat} {v:Value} {ts:List OwnT} (h:CelT w base v ts):∃ A c,v=.slice A ts.length c:=by
 obtain⟨A,c,e,_⟩:=h.reads
 exact⟨A,c,e⟩
theorem CelT.lower {w:World} {base base':Nat} {v:Value} {ts:List OwnT} (h:CelT w base v ts) (hb:base'≤base):CelT w base' v ts:=⟨fun t ht=>(h.each t ht).lower hb,h.apart,Kd.R_lower h.row hb⟩
theorem CelT.push {W w1:World} {base:Nat} {v v1:Value} {ts:List OwnT} {t:OwnT} (h:CelT W base v ts) (hg:W.grownBy w1 v.ownBlock) (hn:∀ g,t.og=some g→∀ x∈ts,x.og≠some g) (ht:Byt W base t.og t.u t.c.f2) (hR:Kd.R (Kd.raw 3) 53 w1 base (fun _=>True) v1 (ts.map OwnT.row++[t.row])):CelT w1 base v1 (ts++[t]):=by
 have hrow:∀ (og:Option Nat) (u:Value) (xs:List Int),Byt W base og u xs→Byt w1 base og u xs:=fun og u xs hB=>hB.keep (fun g hgo=>by
  have hne:some g≠v.ownBlock:=by
   obtain⟨c1,m1,t1⟩:=hB.typed g hgo
   intro e
   obtain⟨inner,ho⟩:=Kd.R_own h.row
   obtain⟨c2,t2⟩:=ydt ho g e.symm
   rw[t1] at t2
   injection t2 with t2
   injection t2 with _ t2 _
   exact absurd t2 (by decide)
  exact hg.block g (hB.lt g hgo) hne)
 refine⟨fun x hx=>?_,List.pairwise_append.2 ⟨h.apart,by simp,fun a ha b hb g hga hgb=>?_⟩,by rw[List.map_append];exact hR⟩
 ·rcases List.mem_append.1 hx with hx|hx
  ·exact hrow _ _ _ (h.each x hx)
  ·obtain rfl:=List.mem_singleton.1 hx
   exact hrow _ _ _ ht
 ·obtain rfl:=List.mem_singleton.1 hb
  exact hn g hgb a ha hga
theorem celV_one (y:Int):∀ u∈[Value.bool false,.int .i64 y,.slice none 0 0],u.oneCell'=true:=by
 intro u hu
 simp only[List.mem_cons,List.not_mem_nil,or_false] at hu
 rcases hu with rfl|rfl|rfl <;> rfl
theorem yln (A:Option Addr) (n c:Nat):∀ u∈[Value.bool false,.int .i64 0,.slice A n c],u.oneCell'=true:=by
 intro u hu
 simp only[List.mem_cons,List.not_mem_nil,or_false] at hu
 rcases hu with rfl|rfl|rfl <;> rfl
theorem ynr (kind:Int) (A:Option Addr) (c:Nat) (b:List Int) (n:Nat) (w:World) (hk:yd6 kind) (h:Kd.C (Kd.int .u8) w A b.length b) (hc:b.length≤c) (hb:Bys b) (hl:b.length≤65000) (hn:n≤4096) :
  Calls Tryz.prog 65 #[.int .i64 kind,.slice A b.length c,.int .i64 n] w (yd4 w (yfy kind b n).1 (yfy kind b n).2):=by
 have hnum:=yhu hk
 have hgp:=fun(p:Nat) (hp:p≤b.length)=>yfn h hc hb (by omega) hp
 obtain⟨X,hX⟩:∃ X,ydd kind b n 0 []=X:=⟨_,rfl⟩
 have hRR:yfy kind b n=if X.2.2≠0 then ([],X.2.2) else if X.2.1<b.length then ([],3) else (X.1,0):=by unfold yfy;rw[hX]
 rw[hRR]
 generalize hRR2:(if X.2.2≠0 then (([]:List Cel),X.2.2) else if X.2.1<b.length then ([],3) else (X.1,0))=RR
 have HRR:=Lib.hid hRR2;have HX:=Lib.hid hX;have HGP:=Lib.hid hgp;have HBY:=Lib.hid hb;have HC:=Lib.hid h;have HN:=Lib.hid hnum
 clear hRR hRR2 hX hgp hb h hnum
 go_enter Tryz.func65,Tryz.ntmps65
 go_wp2
 go_loopw [8,9,14] (fun v8 v9 vi wq=>∃ (i p:Nat) (ts:List OwnT),i≤n∧vi=.int .i64 i∧v9=.int .i64 p∧p≤b.length∧ts.length=i∧RowKit.Hid (ydd kind b (n-i) p (ts.map (·.c))=X)∧RowKit.Hid (CelT wq w.heap.size v8 ts)∧RowKit.Hid (Below w.heap.size w wq)) (fun _ _ vi _=>n-(intOf vi).toNat)
 case atStart=>exact⟨0,0,[],Nat.zero_le _,rfl,rfl,Nat.zero_le _,rfl,HX,Lib.hid (CelT.nil _ _),Lib.hid (Below.refl _ _)⟩
 case round =>
  obtain⟨i,p,ts,hi9,rfl,rfl,hp,htl,hXi,HT,HBR⟩:=hrel
  obtain⟨A8,c8,rfl⟩:=HT.out.slice
  by_cases hlt:i<n
  ·obtain⟨m,hm⟩:∃ m,n-i=m+1:=⟨n-i-1,by omega⟩
   have hm2:n-(i+1)=m:=by omega
   have hX1:=hXi.out
   rw[hm] at hX1
   unfold ydd at hX1
   have hg1:=HGP.out p hp
   have hl1:=fun h=>ycp HBY.out (p:=p) h
   have hs1:=fun h=>ydz (p:=p) HBY.out h
   generalize vget b p=r1 at *
   obtain⟨u,q,e1⟩:=r1
   simp only at hg1 hl1 hs1 hX1
   have HG1:=Lib.hid hg1
   clear hg1 hXi
   by_cases he1:e1=0
   ·subst he1
    rw[if_neg (by decide)] at hX1
    obtain⟨hq,_⟩:=hl1 rfl
    have hu64:=hs1 rfl
    clear hl1 hs1
    by_cases hk6:kind≤6
    ·rw[if_pos hk6] at hX1
     rw[decide_eq_true hk6] at HN
     have hun:=yjk hu64
     generalize ycy u=y at *
     have HU:=Lib.hid hun;have HXI:=Lib.hid hX1;have HM:=Lib.hid hm2;have HLT:=Lib.hid hlt;have HTL:=Lib.hid htl
     have hrl:(ts.map OwnT.row).length=i:=by rw[List.length_map,htl]
     have HRL:=Lib.hid hrl
     clear hun hX1 hm hm2 hrl htl
     go_wp2_with (first
      | (go_at_call 39;refine(HG1.out _ HBR.out).mono ?_;rintro e w4 ⟨rfl,⟨m4,rfl⟩⟩)
      | (go_at_call 50;refine(ybp.calls kind true _ HN.out).mono ?_;rintro e w5 ⟨rfl,⟨m5,rfl⟩⟩)
      | (go_at_call 105;refine(yfd.calls _ _ _ HU.out).mono ?_;rintro e w6 ⟨rfl,⟨m6,rfl⟩⟩)
      | (at_builtin;refine Kd.R_append (Kd.raw 3) (w0:=w) w.heap.size rfl (.tmp 30) (.tmp 34) 22 53 (.agg #[.bool false,.int .i64 0,.slice none 0 0]) 40 rfl Tryz.underlying22 ygj rfl (by decide) (by decide) _ (ts.map OwnT.row) [.bool false,.int .i64 y,.slice none 0 0] [.bool false,.int .i64 y,.slice none 0 0] (fun _=>True) (fun _=>False) rfl rfl ⟨rfl,rfl,celV_one y⟩ (fun _ hk=>hk.elim) (fun _ _=>trivial) (HT.out.below (by repeat (first|exact Below.refl _ _|apply yab))).row (yab HBR.out _) (yab HBR.out _).size (by have:=HRL.out;have:=HLT.out;omega) ?_;intro v7 w7 hR7 hb7 hg7 hat7;have hT7:=(HT.out.below (by repeat (first|exact Below.refl _ _|apply yab))).push (t:=⟨yds y,.slice none 0 0,none⟩) hg7 (fun g hg=>(by cases hg)) (.inl ⟨rfl,rfl,rfl⟩) hR7;have HT7:=Lib.hid hT7;have HB7:=Lib.hid hb7;obtain⟨A7,c7,rfl⟩:=hT7.slice;clear hR7 hb7 hg7 hat7 hT7))
     go_roundw
     case rel=>exact⟨i+1,q,ts++[⟨yds y,.slice none 0 0,none⟩],HLT.out,by go_num,rfl,hq,by rw[List.length_append,HTL.out];rfl,Lib.hid (by rw[HM.out];simpa using HXI.out),Lib.hid (by have h:=HT7.out;rw[List.length_append] at h;exact h),HB7⟩
     case measure=>have:=HLT.out;simp [intOf];omega
    ·rw[if_neg hk6] at hX1
     rw[decide_eq_false hk6] at HN
     by_cases h200:200<u
     ·rw[if_pos h200] at hX1
      have h2i:(200:Int)<(u:Int):=by omega
      have HXI:=Lib.hid hX1
      clear hX1 hm hm2
      go_wp2_with (first
       | (go_at_call 39;refine(HG1.out _ HBR.out).mono ?_;rintro e w4 ⟨rfl,⟨m4,rfl⟩⟩)
       | (go_at_call 50;refine(ybp.calls kind false _ HN.out).mono ?_;rintro e w5 ⟨rfl,⟨m5,rfl⟩⟩))
      go_ret2
      rw[← HRR.out,← HXI.out,if_pos (by decide)]
      exact yd4.none (by decide) (by repeat (first|exact HBR.out|apply yab))
     ·rw[if_neg h200] at hX1
      have h2i:decide ((200:Int)<(u:Int))=false:=by simp;omega
      have h2n:u≤200:=by omega
      by_cases hsh:b.length-q<u
      ·rw[if_pos hsh] at hX1
       have h3i:(b.length:Int)-(q:Int)<(u:Int):=by omega
       have HXI:=Lib.hid hX1
       clear hX1 hm hm2
       go_wp2_with (first
        | (go_at_call 39;refine(HG1.out _ HBR.out).mono ?_;rintro e w4 ⟨rfl,⟨m4,rfl⟩⟩)
        | (go_at_call 50;refine(ybp.calls kind false _ HN.out).mono ?_;rintro e w5 ⟨rfl,⟨m5,rfl⟩⟩))
       go_ret2
       rw[← HRR.out,← HXI.out,if_pos (by decide)]
       exact yd4.none (by decide) (by repeat (first|exact HBR.out|apply yab))
      ·rw[if_neg hsh] at hX1
       have h3i:decide ((b.length:Int)-(q:Int)<(u:Int))=false:=by simp;omega
       have hqu:q+u≤b.length:=by omega
       obtain⟨B',hcut,hB'⟩:=yio A c b q (q+u) (by omega) hqu hc
       have hsd:(b.take (q+u)).drop q=(b.drop q).take u:=by rw[List.drop_take];congr 1;omega
       rw[show q+u-q=u by omega,hsd] at hB'
       rw[show q+u-q=u by omega,show((q+u:Nat):Int)=(q:Int)+(u:Int) by omega] at hcut
       have hsl:((b.drop q).take u).length=u:=by rw[List.length_take,List.length_drop];omega
       obtain⟨s,hs⟩:∃ s,s=(b.drop q).take u:=⟨_,rfl⟩
       rw[← hs] at hsl hB' hX1
       have hcl:=fun(w2:World) (hb2:Below w.heap.size w w2)=>yi0 B' (c-q) s w2 (by rw[hsl];exact hB' w2 (Kd.C_below HC.out hb2)) (by omega)
       rw[hsl] at hcl
       have hrl:(ts.map OwnT.row).length=i:=by rw[List.length_map,htl]
       have HRL:=Lib.hid hrl;have HCL:=Lib.hid hcl;have HSL:=Lib.hid hsl
       have HXI:=Lib.hid hX1;have HM:=Lib.hid hm2;have HLT:=Lib.hid hlt;have HTL:=Lib.hid htl
       clear hX1 hm hm2 hrl htl hcl hsl hs hB' hsd
       go_wp2_with (first
        | (go_at_call 39;refine(HG1.out _ HBR.out).mono ?_;rintro e w4 ⟨rfl,⟨m4,rfl⟩⟩)
        | (go_at_call 50;refine(ybp.calls kind false _ HN.out).mono ?_;rintro e w5 ⟨rfl,⟨m5,rfl⟩⟩)
        | (go_at_call 106;refine(HCL.out _ (by repeat (first|exact HBR.out|apply yab))).mono ?_;rintro e w6 ⟨A6,c6,rfl,ho6,hb6⟩;have HT6:=Lib.hid ((HT.out.below (by repeat (first|exact Below.refl _ _|apply yab))).below hb6);have HB6:=Lib.hid ((fun(hx:Below w.heap.size w _)=>yae hx hx.size hb6) (by repeat (first|exact HBR.out|apply yab)));have HO6:=Lib.hid ho6;have HSZ:=Lib.hid ((fun {W5:World} (hx:Below wr.heap.size wr W5) (_:Below W5.heap.size W5 w6)=>hx.size) (by repeat (first|exact Below.refl _ _|apply yab)) hb6);clear ho6 hb6)
        | (at_builtin;refine Kd.R_append (Kd.raw 3) (w0:=w) w.heap.size rfl (.tmp 52) (.tmp 59) 22 53 (.agg #[.bool false,.int .i64 0,.slice none 0 0]) 40 rfl Tryz.underlying22 ygj rfl (by decide) (by decide) _ (ts.map OwnT.row) [.bool false,.int .i64 0,.slice A6 u c6] [.bool false,.int .i64 0,.slice A6 u c6] (fun _=>True) (fun _=>False) rfl rfl ⟨rfl,rfl,yln A6 u c6⟩ (fun _ hk=>hk.elim) (fun _ _=>trivial) HT6.out.row HB6.out HB6.out.size (by have:=HRL.out;have:=HLT.out;omega) ?_;intro v7 w7 hR7 hb7 hg7 hat7;have hT7:=HT6.out.push (t:=⟨ycw s,.slice A6 u c6,(Value.slice A6 u c6).ownBlock⟩) hg7 (fun g hg x hx hxg=>(by have h1:=HT.out.og_lt hx hxg;have h2:=ydp HO6.out g hg;have h3:=HSZ.out;omega)) ((Byt.of_own HO6.out).lower (Nat.le_trans HBR.out.size HSZ.out)) hR7;have HT7:=Lib.hid hT7;have HB7:=Lib.hid hb7;obtain⟨A7,c7,rfl⟩:=hT7.slice;clear hR7 hb7 hg7 hat7 hT7))
       go_roundw
       case rel=>exact⟨i+1,q+u,ts++[⟨ycw s,.slice A6 u c6,(Value.slice A6 u c6).ownBlock⟩],HLT.out,by go_num,by go_num,hqu,by rw[List.length_append,HTL.out];rfl,Lib.hid (by rw[HM.out];simpa using HXI.out),Lib.hid (by have h:=HT7.out;rw[List.length_append] at h;exact h),HB7⟩
       case measure=>have:=HLT.out;simp [intOf];omega
   ·rw[if_pos he1] at hX1
    have heb:(e1 == 0)=false:=by simpa using he1
    have HXI:=Lib.hid hX1;have HE1:=Lib.hid he1
    clear hX1 hl1 hs1 hm hm2 he1
    go_wp2_with (go_at_call 39;refine(HG1.out _ HBR.out).mono ?_;rintro e w4 ⟨rfl,⟨m4,rfl⟩⟩)
    go_ret2
    rw[← HRR.out,← HXI.out,if_pos HE1.out]
    exact yd4.none HE1.out (yab HBR.out _)
  ·obtain rfl:i=n:=by omega
   have hX1:=hXi.out
   rw[Nat.sub_self] at hX1
   unfold ydd at hX1
   have HXI:=Lib.hid hX1
   clear hX1 hXi
   by_cases htr:p<b.length
   ·have hti:(p:Int)<(b.length:Int):=by omega
    go_wp2
    go_ret2
    rw[← HRR.out,← HXI.out,if_neg (by simp),if_pos htr]
    exact yd4.none (by decide) HBR.out
   ·have htd:decide ((p:Int)<(b.length:Int))=false:=by simp;omega
    go_wp2
    go_ret2
    rw[← HRR.out,← HXI.out,if_neg (by simp),if_neg htr]
    exact⟨_,rfl,HBR.out,fun _=>⟨ts,rfl,HT.out⟩⟩
theorem yif (kind:Int) (b:List Int) (n:Nat):ybi kind 1 b n=yfy kind b n:=by unfold ybi;rw[if_pos rfl]
theorem yp7 {kind:Int} (hk:yd6 kind):yf9 kind 1:=by
 intro A c b n w h hc hb hl hn
 rw[yif]
 have hp:=fun(w2:World) (hb2:Below w.heap.size w w2)=>ynr kind A c b n w2 hk (Kd.C_below h hb2) hc hb hl hn
 have HP:=Lib.hid hp
 clear hp h hb hk
 generalize yfy kind b n=r at *
 obtain⟨cs,er⟩:=r
 go_enter Tryz.func41,Tryz.ntmps41
 go_wp2_with (go_at_call 65;refine(HP.out _ (Below.refl _ _)).mono ?_;rintro e w1 ⟨v1,rfl,hb1,hC1⟩)
 go_ret2
 exact⟨_,rfl,hb1,hC1⟩
theorem yqd {kind:Int} {b:List Int} (hb:Bys b):∀ (n p:Nat) (out:List Cel),(∀ c∈out,yf0 c)→(ydd kind b n p out).2.2=0→∀ c∈(ydd kind b n p out).1,yf0 c:=by
 intro n
 induction n with
 | zero=>intro p out ho _;exact ho
 | succ n ih =>
  intro p out ho h
  rw[ydd] at h ⊢
  have hlt:=fun h=>ydz hb (p:=p) h
  rcases hg:vget b p with ⟨u,q,e⟩
  rw[hg] at h hlt
  simp only at h hlt ⊢
  by_cases he:e=0
  rotate_left
  ·rw[if_pos he] at h;exact absurd h he
  subst he
  rw[if_neg (by simp)] at h ⊢
  by_cases hk:kind≤6
  ·rw[if_pos hk] at h ⊢
   refine ih q _ (fun c hc=>?_) h
   rcases List.mem_append.1 hc with hc|hc
   ·exact ho c hc
   ·obtain rfl:=List.mem_singleton.1 hc
    exact yli (ygv (hlt rfl))
  ·rw[if_neg hk] at h ⊢
   by_cases h2:200<u
   ·rw[if_pos h2] at h;exact absurd h (by decide)
   rw[if_neg h2] at h ⊢
   by_cases h3:b.length-q<u
   ·rw[if_pos h3] at h;exact absurd h (by decide)
   rw[if_neg h3] at h ⊢
   refine ih (q+u) _ (fun c hc=>?_) h
   rcases List.mem_append.1 hc with hc|hc
   ·exact ho c hc
   ·obtain rfl:=List.mem_singleton.1 hc
    exact yj6 ((hb.drop q).take u) (by rw[List.length_take];omega)
theorem ymk {kind:Int}:yha kind 1:=by
 intro b n hb h c hc
 rw[yif] at h hc
 unfold yfy at h hc
 by_cases h1:(ydd kind b n 0 []).2.2=0
 rotate_left
 ·rw[if_pos h1] at h;exact absurd h h1
 rw[if_neg (fun x=>x h1)] at h hc
 by_cases h2:(ydd kind b n 0 []).2.1<b.length
 ·rw[if_pos h2] at h;exact absurd h (by decide)
 rw[if_neg h2] at hc
 exact yqd hb n 0 [] (fun c hc=>by cases hc) h1 c hc
def asT (vs:List Value) (ogs:List (Option Nat)) (es:List (List Int)):List OwnT:=(List.range es.length).map fun i=>⟨ycw (es.getD i []),vs.getD i undef,ogs.getD i none⟩
theorem yel (vs:List Value) (ogs:List (Option Nat)) (es:List (List Int)):(asT vs ogs es).length=es.length:=by simp [asT]
theorem yna (vs:List Value) (ogs:List (Option Nat)) (es:List (List Int)):(asT vs ogs es).map (·.c)=es.map ycw:=by
 apply List.ext_getElem (by simp [asT])
 intro i h1 h2
 simp only[asT,List.getElem_map,List.getElem_range]
 rw[List.length_map] at h2
 rw[List.getD_eq_getElem?_getD,List.getElem?_eq_getElem h2,Option.getD_some]
theorem yku {vs:List Value} {ogs:List (Option Nat)} {es:List (List Int)} {i:Nat} (hi:i<es.length) {u:Value} {og:Option Nat} (hu:vs[i]?=some u) (ho:ogs[i]?=some og):(asT vs ogs es)[i]'(by rw[yel];exact hi)=⟨ycw es[i],u,og⟩:=by
 simp only[asT,List.getElem_map,List.getElem_range]
 rw[List.getD_eq_getElem?_getD,List.getD_eq_getElem?_getD,List.getD_eq_getElem?_getD,List.getElem?_eq_getElem hi,hu,ho]
 rfl
theorem ynp (base B:Nat) (v0:Value) (vs:List Value) (ogs:List (Option Nat)) (es:List (List Int)) (er:Int) (w:World) (hE:EntX w base B v0 vs ogs es) (hbase:base≤w.heap.size) (hl:es.length≤4096) :
  Calls Tryz.prog 69 #[v0,.int .i64 er] w fun e w'=>∃ v,e=.returned (.tuple #[v,.int .i64 er])∧Below w.heap.size w w'∧CelT w' base v (asT vs ogs es):=by
 obtain⟨A0,c0,rfl,hc0,hC0⟩:=hE.entB.reads
 have HE:=Lib.hid hE
 clear hE hC0
 go_enter Tryz.func69,Tryz.ntmps69
 go_wp2
 go_loopw [6,11] (fun v6 vi wq=>∃ i:Nat,i≤es.length∧vi=.int .i64 i∧RowKit.Hid (CelT wq base v6 ((asT vs ogs es).take i))∧RowKit.Hid (Kd.R (Kd.raw 3) 53 wq w.heap.size (fun _=>True) v6 (((asT vs ogs es).take i).map OwnT.row))∧RowKit.Hid (Below w.heap.size w wq)) (fun _ vi _=>es.length-(intOf vi).toNat)
 case atStart=>exact⟨0,Nat.zero_le _,rfl,Lib.hid (by rw[List.take_zero];exact CelT.nil _ _),Lib.hid (by rw[List.take_zero];exact Kd.R_nil _ _ _ _ _),Lib.hid (Below.refl _ _)⟩
 case round =>
  obtain⟨i,hi9,rfl,HT,HRW,HBR⟩:=hrel
  obtain⟨A6,c6,rfl⟩:=HT.out.slice
  have htk:((asT vs ogs es).take i).length=i:=by rw[List.length_take,yel];omega
  by_cases hlt:i<es.length
  ·obtain⟨ad,rfl⟩:∃ ad,A0=some ad:=by
    obtain⟨A',c',he,_,hC⟩:=HE.out.entB.reads
    injection he with he
    subst he
    obtain⟨ad,e,_⟩:=hC.2.2 (by omega)
    exact⟨ad,e⟩
   obtain⟨A',c',og,hvs,hog,hB,hc',hC',hcell⟩:=HE.out.at hlt
   have hx:=(HBR.out.cell (World.block_lt_of_cell? w _ hcell)).trans hcell
   have hti:(asT vs ogs es)[i]'(by rw[yel];exact hlt)=⟨ycw es[i],.slice A' es[i].length c',og⟩:=yku hlt hvs hog
   have hsn:(asT vs ogs es).take (i+1)=(asT vs ogs es).take i++[⟨ycw es[i],.slice A' es[i].length c',og⟩]:=by rw[← ybd _ i (by rw[yel];exact hlt),hti]
   have hfr:∀ g,og=some g→∀ x∈(asT vs ogs es).take i,x.og≠some g:=by
    intro g hg x hx hxg
    obtain⟨j,hj,rfl⟩:=List.mem_iff_getElem.1 hx
    rw[htk] at hj
    obtain⟨u2,og2,hu2,hog2,_⟩:=HE.out.each j (by omega)
    rw[List.getElem_take,yku (by omega) hu2 hog2] at hxg
    simp only at hxg
    subst hxg
    exact HE.out.apart j i g hj hog2 (by rw[hog,hg])
   have hBq:Byt wr base og (.slice A' es[i].length c') es[i]:=hB.keep (fun g hg=>HBR.out.block g (hB.lt g hg))
   obtain⟨s,hs⟩:∃ s,s=es[i]:=⟨_,rfl⟩
   rw[← hs] at hx hsn hBq
   obtain⟨sl,hsl⟩:∃ sl,sl=s.length:=⟨_,rfl⟩
   rw[← hsl] at hx hsn hBq
   have HSN:=Lib.hid hsn;have HFR:=Lib.hid hfr;have HBQ:=Lib.hid hBq;have HLT:=Lib.hid hlt
   have hrl:(((asT vs ogs es).take i).map OwnT.row).length=i:=by rw[List.length_map,htk]
   have HRL:=Lib.hid hrl;have HTK:=Lib.hid htk
   clear hs hsl hsn hfr hBq hrl htk hti hcell hC' hB hvs hog hc' hlt
   generalize (asT vs ogs es).take i=ts at *
   go_wp2_with (at_builtin;refine Kd.R_append (Kd.raw 3) (w0:=w) w.heap.size rfl (.tmp 15) (.tmp 18) 22 53 (.agg #[.bool false,.int .i64 0,.slice none 0 0]) 40 rfl Tryz.underlying22 ygj rfl (by decide) (by decide) _ (ts.map OwnT.row) [.bool false,.int .i64 0,.slice A' sl c'] [.bool false,.int .i64 0,.slice A' sl c'] (fun _=>True) (fun _=>False) rfl rfl ⟨rfl,rfl,yln A' sl c'⟩ (fun _ hk=>hk.elim) (fun _ _=>trivial) HRW.out HBR.out HBR.out.size (by have:=HRL.out;have:=HLT.out;omega) ?_;intro v7 w7 hR7 hb7 hg7 hat7;have hT7:=HT.out.push (t:=⟨ycw s,.slice A' sl c',og⟩) hg7 HFR.out HBQ.out (Kd.R_lower hR7 hbase);have HT7:=Lib.hid hT7;have HB7:=Lib.hid hb7;have HR7:=Lib.hid hR7;obtain⟨A7,c7,rfl⟩:=hT7.slice;clear hR7 hb7 hg7 hat7 hT7)
   go_roundw
   case rel=>exact⟨i+1,HLT.out,by go_num,Lib.hid (by have h:=HT7.out;rw[List.length_append] at h;rw[HSN.out];exact h),Lib.hid (by have h:=HR7.out;rw[List.length_append] at h;rw[HSN.out,List.map_append];exact h),HB7⟩
   case measure=>have:=HLT.out;simp [intOf];omega
  ·obtain rfl:i=es.length:=by omega
   have hta:(asT vs ogs es).take es.length=asT vs ogs es:=List.take_of_length_le (by rw[yel];exact Nat.le_refl _)
   rw[hta] at HT ⊢
   clear hta htk
   go_wp2
   go_ret2
   exact⟨_,rfl,HBR.out,HT.out⟩
theorem decS_ok {b:List Int} (hb:Bys b) (h:(decS b).2=0):(decS b).1.length≤4096∧∀ s∈(decS b).1,s.length≤200∧Bys s:=by
 have he:=enc_dec hb h
 generalize (decS b).1=es at *
 unfold encS at he
 by_cases hi:(idx es).2.2=0
 rotate_left
 ·rw[if_neg hi] at he
  exact absurd (congrArg Prod.snd he) hi
 rw[if_pos hi] at he
 obtain⟨h1,h2,h3,_⟩:=ymg hi
 refine⟨h1,fun s hs=>⟨h2 s hs,fun x hx=>hb x ?_⟩⟩
 have he1:=congrArg Prod.fst he
 simp only at he1
 rw[← he1,h3]
 unfold encB
 refine List.mem_append_left _ (List.mem_append_left _ (List.mem_append_right _ ?_))
 exact List.mem_flatten.2 ⟨one s,List.mem_map.2 ⟨s,yd0.2 hs,rfl⟩,List.mem_append_right _ hx⟩
theorem yox {b:List Int} (hb:Bys b):(decS b).1.length≤4096:=by
 by_cases h:(decS b).2=0
 ·exact(decS_ok hb h).1
 ·rw[dec_err h];simp
theorem ynx {kind:Int}:yha kind 4:=by
 intro b n hb h c hc
 unfold ybi at h hc
 rw[if_neg (by decide),if_neg (by decide),if_neg (by decide),if_pos rfl] at h hc
 obtain⟨h1,h2,h3⟩:=yf5 h
 rw[h3] at hc
 obtain⟨s,hs,rfl⟩:=List.mem_map.1 hc
 have:=(decS_ok hb h1).2 s hs
 exact yj6 this.2 this.1
def yke (w:World) (es:List (List Int)) (n:Int) (e:Ending) (w':World):Prop:=∃ v,e=.returned (.tuple #[v,.int .i64 n])∧Below w.heap.size w w'∧EntB w' w.heap.size v es
theorem ym6 {w w1:World} {v:Value} {es:List (List Int)} (er:Int) (hb:Below w.heap.size w w1) (h:EntB w1 w.heap.size v es) (hl:es.length≤4096) :
  Calls Tryz.prog 69 #[v,.int .i64 er] w1 fun e w'=>∃ A c,e=.returned (.tuple #[.slice A (es.map ycw).length c,.int .i64 er])∧Below w.heap.size w w'∧CelB w' w.heap.size (.slice A (es.map ycw).length c) (es.map ycw):=by
 obtain⟨vs,ogs,hX⟩:=EntX.of h
 refine(ynp _ _ v vs ogs es er w1 hX hb.size hl).mono ?_
 rintro e w2 ⟨v2,rfl,hb2,hT⟩
 obtain⟨A,c,rfl⟩:=hT.slice
 rw[yel] at hT
 rw[yel,List.length_map]
 exact⟨A,c,rfl,yae hb hb.size hb2,_,yna vs ogs es,hT⟩
theorem yrj (kind:Int):yf9 kind 4:=by
 intro A c b n w h hc hb hl hn
 have hd:=ypm A c b w h hc hb (by omega)
 have hlen:=yox hb
 have hcd:ybi kind 4 b n=ybv ((decS b).1.map ycw) (decS b).2 n:=by unfold ybi;rw[if_neg (by decide),if_neg (by decide),if_neg (by decide),if_pos rfl]
 rw[hcd]
 clear hcd
 generalize decS b=r at *
 obtain⟨es,er⟩:=r
 simp only at hd hlen ⊢
 have hf:=fun(w1:World) (v:Value) (h1:Below w.heap.size w w1) (h2:EntB w1 w.heap.size v es)=>ym6 er h1 h2 hlen
 generalize es.map ycw=cs at *
 have HD:=Lib.hid hd;have HF:=Lib.hid hf
 clear h hb hd hf
 by_cases he:er=0
 ·subst he
  by_cases hm:cs.length=n
  ·have hX:ybv cs 0 n=(cs,0):=yeu cs n hm
   rw[hX]
   subst hm
   clear hX
   go_enter Tryz.func41,Tryz.ntmps41
   go_wp2_with (first
    | (go_at_call 70;refine HD.out.mono ?_;rintro e w1 ⟨v1,rfl,hb1,hE1⟩)
    | (go_at_call 69;refine(HF.out _ _ hb1 hE1).mono ?_;rintro e w2 ⟨A2,c2,rfl,hb2,hC2⟩;have HC2:=Lib.hid hC2;clear hC2 hE1))
   go_ret2
   exact⟨_,rfl,hb2,fun _=>HC2.out⟩
  ·have hX:ybv cs 0 n=([],5):=by unfold ybv;rw[if_neg (by decide),if_pos hm]
   rw[hX]
   have hmi:¬ (cs.length:Int)=(n:Int):=by omega
   have hmb:((cs.length:Int) == (n:Int))=false:=by simpa using hmi
   clear hX
   go_enter Tryz.func41,Tryz.ntmps41
   go_wp2_with (first
    | (go_at_call 70;refine HD.out.mono ?_;rintro e w1 ⟨v1,rfl,hb1,hE1⟩)
    | (go_at_call 69;refine(HF.out _ _ hb1 hE1).mono ?_;rintro e w2 ⟨A2,c2,rfl,hb2,hC2⟩;have HC2:=Lib.hid hC2;clear hC2 hE1))
   go_ret2
   exact⟨_,rfl,hb2,fun h=>absurd h (by decide)⟩
 ·have hX:ybv cs er n=([],er):=by unfold ybv;rw[if_pos he]
  rw[hX]
  have heb:(er == 0)=false:=by simpa using he
  clear hX
  go_enter Tryz.func41,Tryz.ntmps41
  go_wp2_with (first
   | (go_at_call 70;refine HD.out.mono ?_;rintro e w1 ⟨v1,rfl,hb1,hE1⟩)
   | (go_at_call 69;refine(HF.out _ _ hb1 hE1).mono ?_;rintro e w2 ⟨A2,c2,rfl,hb2,hC2⟩;have HC2:=Lib.hid hC2;clear hC2 hE1))
  go_ret2
  exact⟨_,rfl,hb2,fun h=>absurd h he⟩
def yd5 (w:World) (r:List Int×Nat×Int) (e:Ending) (w':World):Prop:=∃ A c og,e=.returned (.tuple #[.slice A r.1.length c,.int .i64 (r.2.1:Int),.int .i64 r.2.2])∧Below w.heap.size w w'∧(r.2.2=0→Byt w' w.heap.size og (.slice A r.1.length c) r.1)
theorem yd5.nil {w w':World} {n:Int} (hn:n≠0) (hb:Below w.heap.size w w'):yd5 w ([],0,n) (.returned (.tuple #[.slice none 0 0,.int .i64 0,.int .i64 n])) w':=⟨Option.none,0,Option.none,rfl,hb,fun h=>absurd h hn⟩
theorem yoz (A:Option Addr) (n c:Nat) (hc:n≤c):∀ W:World,(Instr.slice 25 (.slice A n c) none (some (.int .i64 (n:Int))) (some (.int .i64 (n:Int)))).run Tryz.prog W=.ok (.slice A n n) W:=by
 intro W
 obtain⟨i0,hi0,_,hsz,_⟩:=info_parts ycj
 have hel:Tryz.prog.elem 25=5:=by simp [Program.elem,Tryz.underlying25]
 have hu:Tryz.prog.underlying 25=some (.slice (Tryz.prog.elem 25)):=by rw[hel];exact Tryz.underlying25
 have ha:(A.map fun x=>x.add 0)=A:=by cases A <;> simp [Addr.add]
 rw[run_slice_hm W 25 A n c hu .i64 .i64 (n:Int) (n:Int) (by omega) (by omega) (by omega),hel]
 simp [sizeOf,typeInfo,hi0,sliced,Result.andThen,ha]
theorem cut_pre (A:Option Addr) (n c j:Nat) (hj:j≤n) (hc:n≤c):∀ W:World,(Instr.slice 25 (.slice A n c) none (some (.int .u64 (j:Int))) none).run Tryz.prog W=.ok (.slice A j c) W:=by
 obtain⟨i0,hi0,_,hsz,_⟩:=info_parts ycj
 have h:=ykd (P:=Tryz.prog) 25 5 .u64 Tryz.underlying25 hi0 A n c (j:Int) (by omega) (by omega) hc
 simpa only [Int.toNat_natCast] using h
theorem ykp {P:Program} {ops:Array Oper} {o:Oper} {a:Act} {w:World} {K:Act→World→Prop} {Q:Exit→Act→World→Prop} {E:Prop} (hgd:o.guard=none) (f:FuncId) (args:Array Value) (hrun:(execOp a.eval o).run P w=.ok (.enter f args) w)
  {Post:Ending→World→Prop} (hc:Calls P f args w Post) (h:∀ e w',Post e w'→∃ v,e=.returned v∧K (a.put o.dst v) w'):if Region.wanted o (yielded ops a.tmps)=true then Oper.wp P o a w K Q else E:=by
 have hw:Region.wanted o (yielded ops a.tmps)=true:=by simp [Region.wanted,hgd]
 rw[if_pos hw]
 unfold Oper.wp
 rw[hrun,Oper.upon_enter]
 refine hc.mono fun e w'' hh=>?_
 obtain⟨v,rfl,hK⟩:=h e w'' hh
 exact hK
theorem Byt.cut {w:World} {base n c:Nat} {A:Option Addr} {xs:List Int} (h:w.ownsRow base 5 1 (.slice A n c) n (nums .u8 xs)):Byt w base (Value.slice A n c).ownBlock (.slice A n n) xs:=by
 have hl:xs.length=n:=by have:=h.1;rw[ylc] at this;omega
 rcases Byt.of_own h with ⟨h1,h2,h3⟩|⟨g,cap,cells,m,h1,h2,h3,h4,h5,h6,h7,h8,h9⟩
 ·injection h2 with e1 e2 e3
  subst e1;subst e2
  exact .inl ⟨h1,rfl,h3⟩
 ·injection h2 with e1 e2 e3
  refine .inr ⟨g,xs.length,cells,m,h1,by rw[e1,hl],h3,Nat.le_refl _,h5,by omega,h7.elim (fun h=>.inl (by omega)) .inr,by omega,h9⟩
theorem len_u64 {n:Nat} (h:n≤1000000):IntKind.u64.wrap (n:Int)=(n:Int):=wraps_u64 _ (by omega) (by omega)
theorem text_part (A:Option Addr) (c:Nat) (b:List Int) (p:Nat) (LA:Option Addr) (lc:Nat) (la:List Int) (w:World) (h:Kd.C (Kd.int .u8) w A b.length b) (hc:b.length≤c) (hb:Bys b) (hl:b.length≤65000) (hp:p≤b.length)
  (hL:Kd.C (Kd.int .u8) w LA la.length la) (hlc:la.length≤lc) (hla:la.length≤200) :
  Calls Tryz.prog 112 #[.slice A b.length c,.int .i64 p,.slice LA la.length lc,.bool false] w (yd5 w (ycc b p la false)):=by
 have hg0:=yfn h hc hb (by omega) hp w (Below.refl _ _)
 have hgp:=fun(p:Nat) (hp:p≤b.length)=>yfn h hc hb (by omega) hp
 have hle0:=fun h=>ycp hb (p:=p) h
 have hlt0:=fun h=>ydz (p:=p) hb h
 unfold ycc
 generalize vget b p=r0 at *
 obtain⟨k1,q,e0⟩:=r0
 simp only at hg0 hle0 hlt0 ⊢
 by_cases he:e0=0
 rotate_left
 ·rw[if_pos he]
  have heb:(e0 == 0)=false:=by simpa using he
  have HG:=Lib.hid hg0;have HE:=Lib.hid he
  clear h hb hgp hg0 hle0 hlt0 hL he
  go_enter Tryz.func112,Tryz.ntmps112
  go_wp2_with (go_at_call 39;refine(HG.out).mono ?_;rintro e w1 ⟨rfl,⟨m1,rfl⟩⟩)
  go_ret3
  exact yd5.nil HE.out (yab (Below.refl _ _) _)
 subst he
 rw[if_neg (by decide)]
 have hq:=(hle0 rfl).1
 have hk64:=hlt0 rfl
 have hg1:=hgp q hq
 have hle1:=fun h=>ycp hb (p:=q) h
 have hlt1:=fun h=>ydz (p:=q) hb h
 generalize vget b q=r1 at *
 obtain⟨k2,q2,e1⟩:=r1
 simp only at hg1 hle1 hlt1 ⊢
 have HG:=Lib.hid hg0;have HG1:=Lib.hid hg1
 by_cases he1:e1=0
 rotate_left
 ·rw[if_pos he1]
  have heb:(e1 == 0)=false:=by simpa using he1
  have HE:=Lib.hid he1
  clear h hb hgp hg0 hle0 hlt0 hg1 hle1 hlt1 hL he1
  go_enter Tryz.func112,Tryz.ntmps112
  go_upto_region 4 with (go_at_call 39;refine(HG.out).mono ?_;rintro e w1 ⟨rfl,⟨m1,rfl⟩⟩)
  go_wp2_with (go_at_call 39;refine(HG1.out _ (by repeat (first|exact Below.refl _ _|apply yab))).mono ?_;rintro e w2 ⟨rfl,⟨m2,rfl⟩⟩)
  go_ret3
  exact yd5.nil HE.out (by repeat (first|exact Below.refl _ _|apply yab))
 subst he1
 rw[if_neg (by decide)]
 have hq2:=(hle1 rfl).1
 have hm64:=hlt1 rfl
 have hlw:=len_u64 (n:=la.length) (by omega)
 clear hg0 hg1 hle0 hle1 hlt0 hlt1 hgp
 by_cases h3:la.length<k1
 ·rw[if_pos (.inl h3)]
  have h3i:(la.length:Int)<(k1:Int):=by omega
  clear h hb hL
  go_enter Tryz.func112,Tryz.ntmps112
  go_upto_region 4 with (go_at_call 39;refine(HG.out).mono ?_;rintro e w1 ⟨rfl,⟨m1,rfl⟩⟩)
  go_wp2_with (go_at_call 39;refine(HG1.out _ (by repeat (first|exact Below.refl _ _|apply yab))).mono ?_;rintro e w2 ⟨rfl,⟨m2,rfl⟩⟩)
  go_ret3
  exact yd5.nil (by decide) (by repeat (first|exact Below.refl _ _|apply yab))
 have h3i:decide ((la.length:Int)<(k1:Int))=false:=by simp;omega
 have h3n:k1≤la.length:=by omega
 rw[if_neg (by rintro(h|⟨h,_⟩) <;> first|exact h3 h|exact absurd h (by decide))]
 have hkw:IntKind.u64.wrap (200-(k1:Int))=200-(k1:Int):=wraps_u64 _ (by omega) (by omega)
 by_cases h4:200<k1+k2
 ·rw[if_pos h4]
  have h4i:200-(k1:Int)<(k2:Int):=by omega
  clear h hb hL h4
  go_enter Tryz.func112,Tryz.ntmps112
  go_upto_region 4 with (go_at_call 39;refine(HG.out).mono ?_;rintro e w1 ⟨rfl,⟨m1,rfl⟩⟩)
  go_wp2_with (go_at_call 39;refine(HG1.out _ (by repeat (first|exact Below.refl _ _|apply yab))).mono ?_;rintro e w2 ⟨rfl,⟨m2,rfl⟩⟩)
  go_ret3
  exact yd5.nil (by decide) (by repeat (first|exact Below.refl _ _|apply yab))
 rw[if_neg h4]
 have h4i:decide (200-(k1:Int)<(k2:Int))=false:=by simp;omega
 have h4n:(k2:Int)≤200-(k1:Int):=by omega
 have h4m:k1+k2≤200:=by omega
 have hk2w:IntKind.i64.wrap (k2:Int)=(k2:Int):=ydm _ (by omega) (by omega)
 by_cases h5:b.length-q2<k2
 ·rw[if_pos h5]
  have h5i:(b.length:Int)-(q2:Int)<(k2:Int):=by omega
  clear h hb hL h4
  go_enter Tryz.func112,Tryz.ntmps112
  go_upto_region 4 with (go_at_call 39;refine(HG.out).mono ?_;rintro e w1 ⟨rfl,⟨m1,rfl⟩⟩)
  go_wp2_with (go_at_call 39;refine(HG1.out _ (by repeat (first|exact Below.refl _ _|apply yab))).mono ?_;rintro e w2 ⟨rfl,⟨m2,rfl⟩⟩)
  go_ret3
  exact yd5.nil (by decide) (by repeat (first|exact Below.refl _ _|apply yab))
 rw[if_neg h5]
 have h5i:decide ((b.length:Int)-(q2:Int)<(k2:Int))=false:=by simp;omega
 have h5n:(k2:Int)≤(b.length:Int)-(q2:Int):=by omega
 have h5m:q2+k2≤b.length:=by omega
 have hcut1:=cut_pre LA la.length lc k1 h3n hlc
 obtain⟨X,hX⟩:∃ X,X=la.take k1:=⟨_,rfl⟩
 have hXl:X.length=k1:=by rw[hX,List.length_take];omega
 have hXC:Kd.C (Kd.int .u8) w LA X.length X:=by rw[hX];exact Kd.C_take hL h3n
 obtain⟨B',hcut2,hB'⟩:=yio A c b q2 (q2+k2) (by omega) h5m hc
 have hsd:(b.take (q2+k2)).drop q2=(b.drop q2).take k2:=by rw[List.drop_take];congr 1;omega
 rw[show q2+k2-q2=k2 by omega,hsd] at hB'
 rw[show q2+k2-q2=k2 by omega,show((q2+k2:Nat):Int)=(q2:Int)+(k2:Int) by omega] at hcut2
 obtain⟨Y,hY⟩:∃ Y,Y=(b.drop q2).take k2:=⟨_,rfl⟩
 have hYl:Y.length=k2:=by rw[hY,List.length_take,List.length_drop];omega
 have hYC:Kd.C (Kd.int .u8) w B' Y.length Y:=by rw[hYl,hY];exact hB' w h
 rw[← hX,← hY]
 have hq2k:IntKind.i64.wrap ((q2:Int)+(k2:Int))=(q2:Int)+(k2:Int):=ydm _ (by omega) (by omega)
 have hq20:(0:Int)≤(q2:Int)+(k2:Int):=by omega
 have hcl:=fun(w2:World) (hb2:Below w.heap.size w w2)=>yi0 LA lc X w2 (Kd.C_below hXC hb2) (by omega)
 have hfull:=fun(A:Option Addr) (c:Nat) (h:(X++Y).length≤c)=>yoz A (X++Y).length c h
 have hSl:(X++Y).length=k1+k2:=by rw[List.length_append,hXl,hYl]
 have HCL:=Lib.hid hcl;have HYC:=Lib.hid hYC;have HSL:=Lib.hid hSl;have HLC:=Lib.hid hL
 clear h hb hL hXC hB' hsd hY hX hcl hYC hSl h4
 subst hXl
 subst hYl
 by_cases hk:yb4 la (X++Y)=X.length
 ·rw[if_neg (by rintro⟨_,h⟩;exact h hk)]
  have hxw:IntKind.i64.wrap (X.length:Int)=(X.length:Int):=ydm _ (by omega) (by omega)
  go_enter Tryz.func112,Tryz.ntmps112
  go_upto_region 4 with (go_at_call 39;refine(HG.out).mono ?_;rintro e w1 ⟨rfl,⟨m1,rfl⟩⟩)
  go_upto_region 13 with (go_at_call 39;refine(HG1.out _ (by repeat (first|exact Below.refl _ _|apply yab))).mono ?_;rintro e w2 ⟨rfl,⟨m2,rfl⟩⟩)
  have hbx:Below w.heap.size w (w.drewN (m1+m2)):=yab (Below.refl _ _) _
  generalize w.drewN (m1+m2)=wx at *
  have HBX:=Lib.hid hbx
  have hcd:=HCL.out wx.drew (yam HBX.out)
  clear HG HG1 hbx
  go_region_law (first
   | (refine ykp rfl 106 #[.slice LA X.length lc] ?hr hcd ?_;(case hr=>kernel_rfl);rintro e w6 ⟨A6,c6,rfl,ho6,hb6'⟩;refine⟨_,rfl,?_⟩;have hb6:=yae (yam HBX.out) (yam HBX.out).size hb6';have hR6:Kd.R (Kd.int .u8) 5 w6 w.heap.size (fun _=>True) (.slice A6 X.length c6) X:=Kd.R_of_own (yg3 ho6 (yam HBX.out).size) (fun _ _=>trivial))
   | (refine Kd.R_append_rows_step (Kd.int .u8) (w0:=w) w.heap.size (by rfl) (.tmp 65) (.tmp 72) 25 5 (.int .u8 0) 1 (by rfl) Tryz.underlying25 ycj rfl (by decide) (by decide) _ X Y B' Y.length (c-q2) (fun _=>True) (fun _=>False) (by rfl) (by rfl)
       (by (with_reducible repeat (first|apply Kd.R_drewN|apply Kd.R_drew));exact hR6)
       (Kd.C_below HYC.out (by repeat (first|exact hb6|exact Below.refl _ _|apply yab|apply yam))) (fun x cs h=>h) (fun _ h=>h.elim) (fun _ _=>trivial) (by repeat (first|exact hb6|exact Below.refl _ _|apply yab|apply yam)) (by refine(fun(hx:Below w.heap.size w _)=>hx.size) ?_;repeat (first|exact hb6|exact Below.refl _ _|apply yab|apply yam)) (by (try simp only[List.length_nil]);omega) ?_;intro v9 w9 hR9 hb9 hg9 hat9))
  have HAT:=Lib.hid (show(q2:Int)+(Y.length:Int)=((q2+Y.length:Nat):Int) by omega)
  obtain⟨A9,c9,rfl,hc9,hC9⟩:=Kd.R_reads hR9
  have hbyt:=Byt.cut (Kd.own_of_R hR9)
  have hfl:=hfull A9 c9 hc9
  have HBY:=Lib.hid hbyt;have HB9:=Lib.hid hb9
  have hsh:=yjn LA A9 lc c9 la (X++Y) w9 (Kd.C_below HLC.out hb9) hC9
  rw[hk] at hsh
  clear hk
  have HSH:=Lib.hid hsh
  clear hsh
  clear hfull hR9 hC9 hbyt hb9 hg9 hat9 hR6 hb6 hb6' ho6 hcut1 hcut2 hcd HCL HYC HLC HBX
  generalize X++Y=S at *
  go_wp2_with (go_at_call 128;refine HSH.out.mono ?_;rintro e w10 ⟨rfl,⟨m10,rfl⟩⟩)
  go_ret3
  exact⟨A9,S.length,_,congrArg (fun z=>Ending.returned (.tuple #[.slice A9 S.length S.length,.int .i64 z,.int .i64 0])) HAT.out,by repeat (first|exact HB9.out|apply yab),fun _=>Byt.keep HBY.out (fun g hg=>(by rfl))⟩
 ·rw[if_pos ⟨by simp,hk⟩]
  have hki:¬ (yb4 la (X++Y):Int)=(X.length:Int):=by omega
  have hkb:((yb4 la (X++Y):Int) == (X.length:Int))=false:=by simpa using hki
  clear hk
  have hxw:IntKind.i64.wrap (X.length:Int)=(X.length:Int):=ydm _ (by omega) (by omega)
  go_enter Tryz.func112,Tryz.ntmps112
  go_upto_region 4 with (go_at_call 39;refine(HG.out).mono ?_;rintro e w1 ⟨rfl,⟨m1,rfl⟩⟩)
  go_upto_region 13 with (go_at_call 39;refine(HG1.out _ (by repeat (first|exact Below.refl _ _|apply yab))).mono ?_;rintro e w2 ⟨rfl,⟨m2,rfl⟩⟩)
  have hbx:Below w.heap.size w (w.drewN (m1+m2)):=yab (Below.refl _ _) _
  generalize w.drewN (m1+m2)=wx at *
  have HBX:=Lib.hid hbx
  have hcd:=HCL.out wx.drew (yam HBX.out)
  clear HG HG1 hbx
  go_region_law (first
   | (refine ykp rfl 106 #[.slice LA X.length lc] ?hr hcd ?_;(case hr=>kernel_rfl);rintro e w6 ⟨A6,c6,rfl,ho6,hb6'⟩;refine⟨_,rfl,?_⟩;have hb6:=yae (yam HBX.out) (yam HBX.out).size hb6';have hR6:Kd.R (Kd.int .u8) 5 w6 w.heap.size (fun _=>True) (.slice A6 X.length c6) X:=Kd.R_of_own (yg3 ho6 (yam HBX.out).size) (fun _ _=>trivial))
   | (refine Kd.R_append_rows_step (Kd.int .u8) (w0:=w) w.heap.size (by rfl) (.tmp 65) (.tmp 72) 25 5 (.int .u8 0) 1 (by rfl) Tryz.underlying25 ycj rfl (by decide) (by decide) _ X Y B' Y.length (c-q2) (fun _=>True) (fun _=>False) (by rfl) (by rfl)
       (by (with_reducible repeat (first|apply Kd.R_drewN|apply Kd.R_drew));exact hR6)
       (Kd.C_below HYC.out (by repeat (first|exact hb6|exact Below.refl _ _|apply yab|apply yam))) (fun x cs h=>h) (fun _ h=>h.elim) (fun _ _=>trivial) (by repeat (first|exact hb6|exact Below.refl _ _|apply yab|apply yam)) (by refine(fun(hx:Below w.heap.size w _)=>hx.size) ?_;repeat (first|exact hb6|exact Below.refl _ _|apply yab|apply yam)) (by (try simp only[List.length_nil]);omega) ?_;intro v9 w9 hR9 hb9 hg9 hat9))
  have HAT:=Lib.hid (show(q2:Int)+(Y.length:Int)=((q2+Y.length:Nat):Int) by omega)
  obtain⟨A9,c9,rfl,hc9,hC9⟩:=Kd.R_reads hR9
  have hbyt:=Byt.cut (Kd.own_of_R hR9)
  have hfl:=hfull A9 c9 hc9
  have HBY:=Lib.hid hbyt;have HB9:=Lib.hid hb9
  have hsh:=yjn LA A9 lc c9 la (X++Y) w9 (Kd.C_below HLC.out hb9) hC9
  generalize yb4 la (X++Y)=sk at *
  have HSH:=Lib.hid hsh
  clear hsh
  clear hfull hR9 hC9 hbyt hb9 hg9 hat9 hR6 hb6 hb6' ho6 hcut1 hcut2 hcd HCL HYC HLC HBX
  generalize X++Y=S at *
  go_wp2_with (go_at_call 128;refine HSH.out.mono ?_;rintro e w10 ⟨rfl,⟨m10,rfl⟩⟩)
  go_ret3
  exact yd5.nil (by decide) (by repeat (first|exact HB9.out|apply yab))
theorem yqk (A:Option Addr) (c:Nat) (b:List Int) (p:Nat) (LA:Option Addr) (lc:Nat) (la:List Int) (w:World) (h:Kd.C (Kd.int .u8) w A b.length b) (hc:b.length≤c) (hb:Bys b) (hl:b.length≤65000) (hp:p≤b.length)
  (hL:Kd.C (Kd.int .u8) w LA la.length la) (hlc:la.length≤lc) (hla:la.length≤200) :
  Calls Tryz.prog 112 #[.slice A b.length c,.int .i64 p,.slice LA la.length lc,.bool true] w (yd5 w (ycc b p la true)):=by
 have hg0:=yfn h hc hb (by omega) hp w (Below.refl _ _)
 have hgp:=fun(p:Nat) (hp:p≤b.length)=>yfn h hc hb (by omega) hp
 have hle0:=fun h=>ycp hb (p:=p) h
 have hlt0:=fun h=>ydz (p:=p) hb h
 unfold ycc
 generalize vget b p=r0 at *
 obtain⟨k1,q,e0⟩:=r0
 simp only at hg0 hle0 hlt0 ⊢
 by_cases he:e0=0
 rotate_left
 ·rw[if_pos he]
  have heb:(e0 == 0)=false:=by simpa using he
  have HG:=Lib.hid hg0;have HE:=Lib.hid he
  clear h hb hgp hg0 hle0 hlt0 hL he
  go_enter Tryz.func112,Tryz.ntmps112
  go_wp2_with (go_at_call 39;refine(HG.out).mono ?_;rintro e w1 ⟨rfl,⟨m1,rfl⟩⟩)
  go_ret3
  exact yd5.nil HE.out (yab (Below.refl _ _) _)
 subst he
 rw[if_neg (by decide)]
 have hq:=(hle0 rfl).1
 have hk64:=hlt0 rfl
 have hg1:=hgp q hq
 have hle1:=fun h=>ycp hb (p:=q) h
 have hlt1:=fun h=>ydz (p:=q) hb h
 generalize vget b q=r1 at *
 obtain⟨k2,q2,e1⟩:=r1
 simp only at hg1 hle1 hlt1 ⊢
 have HG:=Lib.hid hg0;have HG1:=Lib.hid hg1
 by_cases he1:e1=0
 rotate_left
 ·rw[if_pos he1]
  have heb:(e1 == 0)=false:=by simpa using he1
  have HE:=Lib.hid he1
  clear h hb hgp hg0 hle0 hlt0 hg1 hle1 hlt1 hL he1
  go_enter Tryz.func112,Tryz.ntmps112
  go_upto_region 4 with (go_at_call 39;refine(HG.out).mono ?_;rintro e w1 ⟨rfl,⟨m1,rfl⟩⟩)
  go_wp2_with (go_at_call 39;refine(HG1.out _ (by repeat (first|exact Below.refl _ _|apply yab))).mono ?_;rintro e w2 ⟨rfl,⟨m2,rfl⟩⟩)
  go_ret3
  exact yd5.nil HE.out (by repeat (first|exact Below.refl _ _|apply yab))
 subst he1
 rw[if_neg (by decide)]
 have hq2:=(hle1 rfl).1
 have hm64:=hlt1 rfl
 have hlw:=len_u64 (n:=la.length) (by omega)
 clear hg0 hg1 hle0 hle1 hlt0 hlt1 hgp
 by_cases h3:la.length<k1
 ·rw[if_pos (.inl h3)]
  have h3i:(la.length:Int)<(k1:Int):=by omega
  clear h hb hL
  go_enter Tryz.func112,Tryz.ntmps112
  go_upto_region 4 with (go_at_call 39;refine(HG.out).mono ?_;rintro e w1 ⟨rfl,⟨m1,rfl⟩⟩)
  go_wp2_with (go_at_call 39;refine(HG1.out _ (by repeat (first|exact Below.refl _ _|apply yab))).mono ?_;rintro e w2 ⟨rfl,⟨m2,rfl⟩⟩)
  go_ret3
  exact yd5.nil (by decide) (by repeat (first|exact Below.refl _ _|apply yab))
 have h3i:decide ((la.length:Int)<(k1:Int))=false:=by simp;omega
 have h3n:k1≤la.length:=by omega
 by_cases h3b:0<k1
 ·rw[if_pos (.inr ⟨by simp,h3b⟩)]
  have h3c:(0:Int)<(k1:Int):=by omega
  clear h hb hL
  go_enter Tryz.func112,Tryz.ntmps112
  go_upto_region 4 with (go_at_call 39;refine(HG.out).mono ?_;rintro e w1 ⟨rfl,⟨m1,rfl⟩⟩)
  go_wp2_with (go_at_call 39;refine(HG1.out _ (by repeat (first|exact Below.refl _ _|apply yab))).mono ?_;rintro e w2 ⟨rfl,⟨m2,rfl⟩⟩)
  go_ret3
  exact yd5.nil (by decide) (by repeat (first|exact Below.refl _ _|apply yab))
 rw[if_neg (by rintro(h|⟨_,h⟩) <;> first|exact h3 h|exact h3b h)]
 obtain rfl:k1=0:=by omega
 have hz0:(((0:Nat):Int))=0:=rfl
 have hgz:=HG.out
 rw[hz0] at hgz
 have HG:=Lib.hid hgz
 clear hgz h3 h3b h3i h3n hk64
 by_cases h4:200<0+k2
 ·rw[if_pos h4]
  have h4i:(200:Int)<(k2:Int):=by omega
  clear h hb hL h4
  go_enter Tryz.func112,Tryz.ntmps112
  go_upto_region 4 with (go_at_call 39;refine(HG.out).mono ?_;rintro e w1 ⟨rfl,⟨m1,rfl⟩⟩)
  go_wp2_with (go_at_call 39;refine(HG1.out _ (by repeat (first|exact Below.refl _ _|apply yab))).mono ?_;rintro e w2 ⟨rfl,⟨m2,rfl⟩⟩)
  go_ret3
  exact yd5.nil (by decide) (by repeat (first|exact Below.refl _ _|apply yab))
 rw[if_neg h4]
 have h4i:decide ((200:Int)<(k2:Int))=false:=by simp;omega
 have h4n:(k2:Int)≤200:=by omega
 have h4m:k2≤200:=by omega
 have hk2w:IntKind.i64.wrap (k2:Int)=(k2:Int):=ydm _ (by omega) (by omega)
 by_cases h5:b.length-q2<k2
 ·rw[if_pos h5]
  have h5i:(b.length:Int)-(q2:Int)<(k2:Int):=by omega
  clear h hb hL h4
  go_enter Tryz.func112,Tryz.ntmps112
  go_upto_region 4 with (go_at_call 39;refine(HG.out).mono ?_;rintro e w1 ⟨rfl,⟨m1,rfl⟩⟩)
  go_wp2_with (go_at_call 39;refine(HG1.out _ (by repeat (first|exact Below.refl _ _|apply yab))).mono ?_;rintro e w2 ⟨rfl,⟨m2,rfl⟩⟩)
  go_ret3
  exact yd5.nil (by decide) (by repeat (first|exact Below.refl _ _|apply yab))
 rw[if_neg h5]
 have h5i:decide ((b.length:Int)-(q2:Int)<(k2:Int))=false:=by simp;omega
 have h5n:(k2:Int)≤(b.length:Int)-(q2:Int):=by omega
 have h5m:q2+k2≤b.length:=by omega
 have hcut1:=cut_pre LA la.length lc 0 (Nat.zero_le _) hlc
 rw[hz0] at hcut1
 have hXC:Kd.C (Kd.int .u8) w LA ([]:List Int).length []:=by have h0:=Kd.C_take hL (Nat.zero_le la.length);rwa [List.take_zero] at h0
 obtain⟨B',hcut2,hB'⟩:=yio A c b q2 (q2+k2) (by omega) h5m hc
 have hsd:(b.take (q2+k2)).drop q2=(b.drop q2).take k2:=by rw[List.drop_take];congr 1;omega
 rw[show q2+k2-q2=k2 by omega,hsd] at hB'
 rw[show q2+k2-q2=k2 by omega,show((q2+k2:Nat):Int)=(q2:Int)+(k2:Int) by omega] at hcut2
 obtain⟨Y,hY⟩:∃ Y,Y=(b.drop q2).take k2:=⟨_,rfl⟩
 have hYl:Y.length=k2:=by rw[hY,List.length_take,List.length_drop];omega
 have hYC:Kd.C (Kd.int .u8) w B' Y.length Y:=by rw[hYl,hY];exact hB' w h
 rw[← hY,List.take_zero,List.nil_append]
 have hq2k:IntKind.i64.wrap ((q2:Int)+(k2:Int))=(q2:Int)+(k2:Int):=ydm _ (by omega) (by omega)
 have hq20:(0:Int)≤(q2:Int)+(k2:Int):=by omega
 have hcl:=fun(w2:World) (hb2:Below w.heap.size w w2)=>yi0 LA lc [] w2 (Kd.C_below hXC hb2) (by simp)
 simp only[List.length_nil] at hcl
 have hfull:=fun(A:Option Addr) (c:Nat) (h:Y.length≤c)=>yoz A Y.length c h
 have HCL:=Lib.hid hcl;have HYC:=Lib.hid hYC;have HLC:=Lib.hid hL
 clear h hb hL hXC hB' hsd hY hcl hYC h4
 subst hYl
 rw[if_neg (by rintro⟨h,_⟩;exact absurd h (by decide))]
 go_enter Tryz.func112,Tryz.ntmps112
 go_upto_region 4 with (go_at_call 39;refine(HG.out).mono ?_;rintro e w1 ⟨rfl,⟨m1,rfl⟩⟩)
 go_upto_region 13 with (go_at_call 39;refine(HG1.out _ (by repeat (first|exact Below.refl _ _|apply yab))).mono ?_;rintro e w2 ⟨rfl,⟨m2,rfl⟩⟩)
 have hbx:Below w.heap.size w (w.drewN (m1+m2)):=yab (Below.refl _ _) _
 generalize w.drewN (m1+m2)=wx at *
 have HBX:=Lib.hid hbx
 have hcd:=HCL.out wx.drew (yam HBX.out)
 clear HG HG1 hbx
 go_region_law (first
  | (refine ykp rfl 106 #[.slice LA 0 lc] ?hr hcd ?_;(case hr=>kernel_rfl);rintro e w6 ⟨A6,c6,rfl,ho6,hb6'⟩;refine⟨_,rfl,?_⟩;have hb6:=yae (yam HBX.out) (yam HBX.out).size hb6';have hR6:Kd.R (Kd.int .u8) 5 w6 w.heap.size (fun _=>True) (.slice A6 0 c6) []:=Kd.R_of_own (yg3 ho6 (yam HBX.out).size) (fun _ _=>trivial))
  | (refine Kd.R_append_rows_step (Kd.int .u8) (w0:=w) w.heap.size (by rfl) (.tmp 65) (.tmp 72) 25 5 (.int .u8 0) 1 (by rfl) Tryz.underlying25 ycj rfl (by decide) (by decide) _ [] Y B' Y.length (c-q2) (fun _=>True) (fun _=>False) (by rfl) (by rfl)
      (by (with_reducible repeat (first|apply Kd.R_drewN|apply Kd.R_drew));exact hR6)
      (Kd.C_below HYC.out (by repeat (first|exact hb6|exact Below.refl _ _|apply yab|apply yam))) (fun x cs h=>h) (fun _ h=>h.elim) (fun _ _=>trivial) (by repeat (first|exact hb6|exact Below.refl _ _|apply yab|apply yam)) (by refine(fun(hx:Below w.heap.size w _)=>hx.size) ?_;repeat (first|exact hb6|exact Below.refl _ _|apply yab|apply yam)) (by (try simp only[List.length_nil]);omega) ?_;intro v9 w9 hR9 hb9 hg9 hat9))
 have HAT:=Lib.hid (show(q2:Int)+(Y.length:Int)=((q2+Y.length:Nat):Int) by omega)
 rw[List.nil_append] at hR9
 obtain⟨A9,c9,rfl,hc9,hC9⟩:=Kd.R_reads hR9
 have hbyt:=Byt.cut (Kd.own_of_R hR9)
 have hfl:=hfull A9 c9 hc9
 have HBY:=Lib.hid hbyt;have HB9:=Lib.hid hb9
 clear hfull hR9 hC9 hbyt hb9 hg9 hat9 hR6 hb6 hb6' ho6 hcut1 hcut2 hcd HCL HYC HLC HBX
 go_wp2
 go_ret3
 exact⟨A9,Y.length,_,congrArg (fun z=>Ending.returned (.tuple #[.slice A9 Y.length Y.length,.int .i64 z,.int .i64 0])) HAT.out,by repeat (first|exact HB9.out|apply yab),fun _=>Byt.keep HBY.out (fun g hg=>(by rfl))⟩
end Go.Proofs.YteeikgjjgfdjgaaGreat.PK
end
