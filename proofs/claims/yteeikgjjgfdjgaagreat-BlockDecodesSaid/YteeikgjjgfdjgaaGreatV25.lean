/-
  Parts of the proof: Wr, Ws, Wt, Wu, Wv, Ww.
-/
import Derived.Test.YteeikgjjgfdjgaaGreatV23
import Derived.Test.YteeikgjjgfdjgaaGreatV24
set_option maxHeartbeats 4000000
set_option maxRecDepth 100000
section
namespace Go.Proofs.YteeikgjjgfdjgaaGreat.PK
open Go.RowKit YteeikgjjgfdjgaaGreatW.PrintWords YteeikgjjgfdjgaaGreatW.PrintLast YteeikgjjgfdjgaaGreatW.PrintMore
set_option linter.unusedVariables false
set_option linter.unusedSimpArgs false
def yd4 (w:World) (l:List Cel) (n:Int) (e:Ending) (w':World):Prop:=∃ v,e=.returned (.tuple #[v,.int .i64 n])∧Below w.heap.size w w'∧(n=0→CelB w' w.heap.size v l)
theorem yld {b:List Int} (hb:Bys b):(ydj b).1.length≤4096:=by
 by_cases h:(ydj b).2=0
 ·exact(yja hb h).2.2
 ·rw[ypt h];simp
theorem yn3 (kind:Int) (A:Option Addr) (c:Nat) (b:List Int) (n:Nat) (w:World) (h:Kd.C (Kd.int .u8) w A b.length b) (hc:b.length≤c) (hb:Bys b) (hl:b.length≤65000) (hn:n≤4096) :
  Calls Tryz.prog 41 #[.int .i64 kind,.int .i64 2,.slice A b.length c,.int .i64 n] w (yd4 w (ybi kind 2 b n).1 (ybi kind 2 b n).2):=by
 have hd:=ypi A c b w h hc hb (by omega)
 have hlen:=yld hb
 have hcd:ybi kind 2 b n=ybv ((ydj b).1.map yds) (ydj b).2 n:=by unfold ybi;rw[if_neg (by decide),if_pos rfl]
 rw[hcd]
 clear hcd
 generalize ydj b=r at *
 obtain⟨vs,er⟩:=r
 simp only at hd hlen ⊢
 obtain⟨k,hk⟩:=(yit vs er hlen).ex
 have hml:(vs.map yds).length=vs.length:=List.length_map _
 have hlen2:(vs.map yds).length≤4096:=by omega
 generalize vs.map yds=cs at *
 have HD:=Lib.hid hd;have HK:=Lib.hid hk
 clear h hb hd hk hml hlen
 by_cases he:er=0
 ·subst he
  by_cases hm:cs.length=n
  ·have hX:ybv cs 0 n=(cs,0):=yeu cs n hm
   rw[hX]
   subst hm
   clear hX
   go_enter Tryz.func41,Tryz.ntmps41
   go_upto_region 11 with (first
    | (go_at_call 67;refine HD.out.mono ?_;rintro e w1 ⟨v1,rfl,hR1,hb1⟩;obtain⟨A1,c1,rfl,hc1,hC1⟩:=Kd.R_reads hR1)
    | (go_at_call 66;refine(ybh.calls k A1 c1 vs 0 cs 0 _ hC1 hc1 HK.out).mono ?_;rintro e w2 ⟨v2,rfl,hS2,hb2⟩;obtain⟨A2,c2,rfl,hc2,hC2⟩:=Kd.S_reads hS2))
   have hb3:=yae hb1 hb1.size hb2
   have hS3:=Lib.hid (Kd.S_lower hS2 hb1.size)
   clear hS2 hC2 hR1 hC1
   go_wp2
   go_ret2
   exact⟨_,rfl,hb3,fun _=>CelB.of_S hS3.out⟩
  ·have hX:ybv cs 0 n=([],5):=by unfold ybv;rw[if_neg (by decide),if_pos hm]
   rw[hX]
   have hmi:¬ (cs.length:Int)=(n:Int):=by omega
   have hmb:((cs.length:Int) == (n:Int))=false:=by simpa using hmi
   clear hX
   go_enter Tryz.func41,Tryz.ntmps41
   go_upto_region 11 with (first
    | (go_at_call 67;refine HD.out.mono ?_;rintro e w1 ⟨v1,rfl,hR1,hb1⟩;obtain⟨A1,c1,rfl,hc1,hC1⟩:=Kd.R_reads hR1)
    | (go_at_call 66;refine(ybh.calls k A1 c1 vs 0 cs 0 _ hC1 hc1 HK.out).mono ?_;rintro e w2 ⟨v2,rfl,hS2,hb2⟩;obtain⟨A2,c2,rfl,hc2,hC2⟩:=Kd.S_reads hS2))
   have hb3:=yae hb1 hb1.size hb2
   have hS3:=Lib.hid (Kd.S_lower hS2 hb1.size)
   clear hS2 hC2 hR1 hC1
   go_wp2
   go_ret2
   exact⟨_,rfl,hb3,fun h=>absurd h (by decide)⟩
 ·have hX:ybv cs er n=([],er):=by unfold ybv;rw[if_pos he]
  rw[hX]
  have heb:(er == 0)=false:=by simpa using he
  clear hX
  go_enter Tryz.func41,Tryz.ntmps41
  go_upto_region 11 with (first
   | (go_at_call 67;refine HD.out.mono ?_;rintro e w1 ⟨v1,rfl,hR1,hb1⟩;obtain⟨A1,c1,rfl,hc1,hC1⟩:=Kd.R_reads hR1)
   | (go_at_call 66;refine(ybh.calls k A1 c1 vs er cs er _ hC1 hc1 HK.out).mono ?_;rintro e w2 ⟨v2,rfl,hS2,hb2⟩;obtain⟨A2,c2,rfl,hc2,hC2⟩:=Kd.S_reads hS2))
  have hb3:=yae hb1 hb1.size hb2
  have hS3:=Lib.hid (Kd.S_lower hS2 hb1.size)
  clear hS2 hC2 hR1 hC1
  go_wp2
  go_ret2
  exact⟨_,rfl,hb3,fun h=>absurd h he⟩
end Go.Proofs.YteeikgjjgfdjgaaGreat.PK
end
section
namespace Go.Proofs.YteeikgjjgfdjgaaGreat.PK
open Go.RowKit
set_option linter.unusedVariables false
set_option linter.unusedSimpArgs false
theorem yph (b:List Int) (p n:Nat):ybt b p n=((ybt (b.drop p) 0 n).1,(if (ybt (b.drop p) 0 n).2.2=0 then p+(ybt (b.drop p) 0 n).2.1 else 0),(ybt (b.drop p) 0 n).2.2):=by
 unfold ybt
 have e1:(b.drop p).length=b.length-p:=List.length_drop
 have e2:(b.drop p).getD 0 0=b.getD p 0:=by rw[List.getD_eq_getElem?_getD,List.getD_eq_getElem?_getD,List.getElem?_drop,Nat.add_zero]
 have e3:(b.drop p).drop (0+1)=b.drop (p+1):=by rw[List.drop_drop]
 have e4:(b.length-p≤0)↔(b.length≤p):=by omega
 have e5:b.length-p-0-1=b.length-p-1:=by omega
 simp only[e2,e3,e1,e4,e5]
 by_cases h1:b.length≤p
 ·simp [h1]
 ·by_cases h2:1<b.getD p 0
  ·simp only[if_neg h1,if_pos h2];rfl
  ·by_cases h3:b.getD p 0=0
   ·simp only[if_neg h1,if_neg h2,if_pos h3];rfl
   ·by_cases h4:b.length-p-1<(n+7) / 8
    ·simp only[if_neg h1,if_neg h2,if_neg h3,if_pos h4];rfl
    ·simp only[if_neg h1,if_neg h2,if_neg h3,if_neg h4]
     generalize ybq ((b.drop (p+1)).take ((n+7) / 8)) 1 n=r
     by_cases h5:r.2=0
     ·by_cases h6:widS r.1=0
      ·simp [h5,h6]
      ·simp [h5,h6];omega
     ·simp [h5]
theorem yht (us:List Int) (u:Int):ya8 (us++[u])=ya8 us+(if u=0 then 1 else 0):=by
 unfold ya8
 rw[List.count_append,List.count_singleton]
 by_cases h:u=0
 ·subst h;simp
 ·have:(u == (0:Int))=false:=by simpa using h
  simp [this,h]
end Go.Proofs.YteeikgjjgfdjgaaGreat.PK
end
section
namespace Go.Proofs.YteeikgjjgfdjgaaGreat.PK
open Go.RowKit YteeikgjjgfdjgaaGreatW.PrintWords YteeikgjjgfdjgaaGreatW.PrintLast YteeikgjjgfdjgaaGreatW.PrintMore
set_option linter.unusedVariables false
set_option linter.unusedSimpArgs false
theorem yd4.none {w w':World} {n:Int} (hn:n≠0) (hb:Below w.heap.size w w'):yd4 w [] n (.returned (.tuple #[.slice none 0 0,.int .i64 n])) w':=⟨_,rfl,hb,fun h=>absurd h hn⟩
def yby (w:World) (l:List Cel) (n:Int) (e:Ending) (w':World):Prop:=∃ v,e=.returned (.tuple #[v,.int .i64 n])∧Below w.heap.size w w'∧(n=0→CelB w' w.heap.size v l)∧(n≠0→v=.slice none 0 0)
theorem yby.none {w w':World} {n:Int} (hn:n≠0) (hb:Below w.heap.size w w'):yby w [] n (.returned (.tuple #[.slice none 0 0,.int .i64 n])) w':=⟨_,rfl,hb,fun h=>absurd h hn,fun _=>rfl⟩
theorem yby.weak {w:World} {l:List Cel} {n:Int} {e:Ending} {w':World} (h:yby w l n e w'):yd4 w l n e w':=by obtain⟨v,h1,h2,h3,_⟩:=h;exact⟨v,h1,h2,h3⟩
theorem yoo (kind:Int) (A:Option Addr) (c:Nat) (b:List Int) (w:World) (h1:kind<1∨8<kind) :
  Calls Tryz.prog 19 #[.int .i64 kind,.slice A b.length c] w (yby w [] 1):=by
 have hbk:=ye4 kind
 rw[decide_eq_true h1] at hbk
 have HK:=Lib.hid hbk
 clear hbk h1
 go_enter Tryz.func19,Tryz.ntmps19
 go_wp2_with (go_at_call 28;refine(yb3.calls kind true _ HK.out).mono ?_;rintro e w1 ⟨rfl,⟨m1,rfl⟩⟩)
 go_ret2
 exact yby.none (by decide) (by repeat (first|exact Below.refl _ _|apply yab))
theorem bdec_long (kind:Int) (A:Option Addr) (c:Nat) (b:List Int) (w:World) (h1:¬ (kind<1∨8<kind)) (hl:65000<b.length) :
  Calls Tryz.prog 19 #[.int .i64 kind,.slice A b.length c] w (yby w [] 4):=by
 have hbk:=ye4 kind
 rw[decide_eq_false h1] at hbk
 have HK:=Lib.hid hbk
 have hi:(65000:Int)<(b.length:Int):=by omega
 clear hbk h1
 go_enter Tryz.func19,Tryz.ntmps19
 go_wp2_with (go_at_call 28;refine(yb3.calls kind false _ HK.out).mono ?_;rintro e w1 ⟨rfl,⟨m1,rfl⟩⟩)
 go_ret2
 exact yby.none (by decide) (by repeat (first|exact Below.refl _ _|apply yab))
theorem yoc (kind:Int) (A:Option Addr) (c:Nat) (b:List Int) (w:World) (h:Kd.C (Kd.int .u8) w A b.length b) (hc:b.length≤c) (hb:Bys b) (h1:¬ (kind<1∨8<kind)) (hl:¬ 65000<b.length) (hs:yc9 b=false) :
  Calls Tryz.prog 19 #[.int .i64 kind,.slice A b.length c] w (yby w [] 6):=by
 have hbk:=ye4 kind
 rw[decide_eq_false h1] at hbk
 have HK:=Lib.hid hbk
 have hi:decide ((65000:Int)<(b.length:Int))=false:=by simp;omega
 have hsl:=fun(w2:World) (hb2:Below w.heap.size w w2)=>yg6 A c b w2 (Kd.C_below h hb2) hc hb (by omega)
 rw[hs] at hsl
 have HS:=Lib.hid hsl
 clear hbk h1 hsl h hb hs
 go_enter Tryz.func19,Tryz.ntmps19
 go_wp2_with (first
  | (go_at_call 28;refine(yb3.calls kind false _ HK.out).mono ?_;rintro e w1 ⟨rfl,⟨m1,rfl⟩⟩)
  | (go_at_call 38;refine(HS.out _ (by repeat (first|exact Below.refl _ _|apply yab))).mono ?_;rintro e w2 ⟨rfl,hb2⟩))
 go_ret2
 exact yby.none (by decide) ((fun(hx:Below w.heap.size w (w.drewN m1))=>yae hx hx.size hb2) (yab (Below.refl _ _) _))
theorem yiv {b:List Int} (h:yc9 b=true):4≤b.length:=by unfold yc9 at h;simp at h;exact h.1
theorem yqq (kind:Int) (A:Option Addr) (c:Nat) (b:List Int) (w:World) (h:Kd.C (Kd.int .u8) w A b.length b) (hc:b.length≤c) (hb:Bys b) (h1:¬ (kind<1∨8<kind)) (hl:b.length=4) (hs:yc9 b=true) :
  Calls Tryz.prog 19 #[.int .i64 kind,.slice A b.length c] w (yby w [] 2):=by
 have hbk:=ye4 kind
 rw[decide_eq_false h1] at hbk
 have HK:=Lib.hid hbk
 have hsl:=fun(w2:World) (hb2:Below w.heap.size w w2)=>yg6 A c b w2 (Kd.C_below h hb2) hc hb (by omega)
 rw[hs] at hsl
 rw[hl] at hsl hc ⊢
 have HS:=Lib.hid hsl
 clear hbk h1 hsl h hb hs hl
 go_enter Tryz.func19,Tryz.ntmps19
 go_wp2_with (first
  | (go_at_call 28;refine(yb3.calls kind false _ HK.out).mono ?_;rintro e w1 ⟨rfl,⟨m1,rfl⟩⟩)
  | (go_at_call 38;refine(HS.out _ (by repeat (first|exact Below.refl _ _|apply yab))).mono ?_;rintro e w2 ⟨rfl,hb2⟩))
 go_ret2
 exact yby.none (by decide) ((fun(hx:Below w.heap.size w (w.drewN m1))=>yae hx hx.size hb2) (yab (Below.refl _ _) _))
theorem yqa (kind:Int) (A:Option Addr) (c:Nat) (b:List Int) (w:World) (h:Kd.C (Kd.int .u8) w A b.length b) (hc:b.length≤c) (hb:Bys b) (h1:¬ (kind<1∨8<kind)) (hl:¬ 65000<b.length) (hs:yc9 b=true) (h4:b.length≠4) (hf:¬ ycz kind (b.getD 0 0)) :
  Calls Tryz.prog 19 #[.int .i64 kind,.slice A b.length c] w (yby w [] 120):=by
 have hbk:=ye4 kind
 rw[decide_eq_false h1] at hbk
 have hge:=yiv hs
 obtain⟨kf,hkf⟩:=yik (kind:=kind) ⟨by omega,by omega⟩ (b.getD 0 0)
 rw[decide_eq_false hf] at hkf
 have HK:=Lib.hid hbk
 have hi:decide ((65000:Int)<(b.length:Int))=false:=by simp;omega
 have hsl:=fun(w2:World) (hb2:Below w.heap.size w w2)=>yg6 A c b w2 (Kd.C_below h hb2) hc hb (by omega)
 rw[hs] at hsl
 obtain⟨ad,rfl,hx0⟩:=Kd.at_int h (0:Int) (by omega) (by omega)
 have a0:ad.add 0=ad:=by simp [Addr.add]
 rw[show rd b (0:Int)=b.getD 0 0 from rfl,show(0:Int).toNat=0 from rfl,a0] at hx0
 have hxb:0≤b.getD 0 0∧b.getD 0 0<256:=by
  rw[List.getD_eq_getElem?_getD,List.getElem?_eq_getElem (show 0<b.length by omega)]
  exact hb _ (List.getElem_mem (by omega))
 generalize b.getD 0 0=x at *
 have hcl:=fun(w2:World) (hb2:Below w.heap.size w w2)=>(hb2.cell (World.block_lt_of_cell? w _ hx0)).trans hx0
 have hwx:IntKind.i64.wrap x=x:=ydm _ (by omega) (by omega)
 have hpos:(0:Int)<(b.length:Int):=by omega
 have h4b:((b.length:Int) == 4)=false:=by simp;omega
 have h4i:¬ (b.length:Int)=4:=by omega
 have HS:=Lib.hid hsl;have HCL:=Lib.hid hcl;have HKF:=Lib.hid hkf
 clear hbk h1 hsl h hb hs hf hge hx0 hcl hkf hl
 go_enter Tryz.func19,Tryz.ntmps19
 go_wp2_with (first
  | (go_at_call 28;refine(yb3.calls kind false _ HK.out).mono ?_;rintro e w1 ⟨rfl,⟨m1,rfl⟩⟩)
  | (go_at_call 38;refine(HS.out _ (by repeat (first|exact Below.refl _ _|apply yab))).mono ?_;rintro e w2 ⟨rfl,hb2⟩;have hb3:=(fun(hx:Below w.heap.size w (w.drewN m1))=>yae hx hx.size hb2) (yab (Below.refl _ _) _);have hx2:=HCL.out _ hb3)
  | (go_at_call 29;refine(ybs.calls kf kind x false _ HKF.out).mono ?_;rintro e w3 ⟨rfl,⟨m3,rfl⟩⟩))
 go_ret2
 exact yby.none (by decide) (yab hb3 _)
theorem bdec_get (kind:Int) (A:Option Addr) (c:Nat) (b y:List Int) (w:World) (h:Kd.C (Kd.int .u8) w A b.length b) (hc:b.length≤c) (hb:Bys b) (h1:¬ (kind<1∨8<kind)) (hl:¬ 65000<b.length) (hs:yc9 b=true) (h4:b.length≠4) (hf:ycz kind (b.getD 0 0)) (hy:y=b.take (b.length-4)) (he:(vget y 1).2.2≠0∨4096<(vget y 1).1) :
  Calls Tryz.prog 19 #[.int .i64 kind,.slice A b.length c] w (yby w [] (if (vget y 1).2.2≠0 then (vget y 1).2.2 else 4)):=by
 have hbk:=ye4 kind
 rw[decide_eq_false h1] at hbk
 have hge:=yiv hs
 obtain⟨kf,hkf⟩:=yik (kind:=kind) ⟨by omega,by omega⟩ (b.getD 0 0)
 rw[decide_eq_true hf] at hkf
 have HK:=Lib.hid hbk
 have hi:decide ((65000:Int)<(b.length:Int))=false:=by simp;omega
 have hsl:=fun(w2:World) (hb2:Below w.heap.size w w2)=>yg6 A c b w2 (Kd.C_below h hb2) hc hb (by omega)
 rw[hs] at hsl
 have hyl:y.length=b.length-4:=by rw[hy,List.length_take];omega
 have hyb:Bys y:=by rw[hy];exact hb.take _
 have hCy:Kd.C (Kd.int .u8) w A y.length y:=by rw[hy];exact Kd.C_take h (by omega)
 obtain⟨i5,hi5,hz0,hz1,hz2⟩:=info_parts ycj
 have hct:=ykd (P:=Tryz.prog) 25 5 .i64 Tryz.underlying25 hi5 A b.length c ((b.length:Int)-4) (by omega) (by omega) hc
 rw[show((b.length:Int)-4).toNat=y.length by omega] at hct
 have hg:=fun(w2:World) (hb2:Below w.heap.size w w2)=>yfn (c:=c) hCy (by omega) hyb (by omega) (p:=1) (by omega) w2 hb2
 rw[show((1:Nat):Int)=1 from rfl] at hg
 obtain⟨ad,rfl,hx0⟩:=Kd.at_int h (0:Int) (by omega) (by omega)
 have a0:ad.add 0=ad:=by simp [Addr.add]
 rw[show rd b (0:Int)=b.getD 0 0 from rfl,show(0:Int).toNat=0 from rfl,a0] at hx0
 have hxb:0≤b.getD 0 0∧b.getD 0 0<256:=by
  rw[List.getD_eq_getElem?_getD,List.getElem?_eq_getElem (show 0<b.length by omega)]
  exact hb _ (List.getElem_mem (by omega))
 generalize b.getD 0 0=x at *
 have hcl:=fun(w2:World) (hb2:Below w.heap.size w w2)=>(hb2.cell (World.block_lt_of_cell? w _ hx0)).trans hx0
 have hwx:IntKind.i64.wrap x=x:=ydm _ (by omega) (by omega)
 have hpos:(0:Int)<(b.length:Int):=by omega
 have h4b:((b.length:Int) == 4)=false:=by simp;omega
 have h4i:¬ (b.length:Int)=4:=by omega
 have hwl:wrap64 ((b.length:Int)-4)=(b.length:Int)-4:=w64 (by omega) (by omega)
 generalize vget y 1=r at *
 obtain⟨n,q,er⟩:=r
 simp only at hg he ⊢
 have HS:=Lib.hid hsl;have HCL:=Lib.hid hcl;have HKF:=Lib.hid hkf;have HG:=Lib.hid hg
 clear hbk h1 hsl h hb hs hf hx0 hcl hkf hg hCy hyb hi5 hz0 hz1 hz2 hl
 have hyl2:=Lib.hid hyl
 clear hyl hy
 generalize hE:(if er≠0 then er else 4)=E
 have HE:=Lib.hid hE
 clear hE
 by_cases he0:er=0
 ·subst he0
  have hn:4096<n:=he.elim (fun h=>absurd rfl h) id
  have hni:(4096:Int)<(n:Int):=by omega
  clear he
  go_enter Tryz.func19,Tryz.ntmps19
  go_upto_region 11 with (first
   | (go_at_call 28;refine(yb3.calls kind false _ HK.out).mono ?_;rintro e w1 ⟨rfl,⟨m1,rfl⟩⟩)
   | (go_at_call 38;refine(HS.out _ (by repeat (first|exact Below.refl _ _|apply yab))).mono ?_;rintro e w2 ⟨rfl,hb2⟩;have hb3:=(fun(hx:Below w.heap.size w (w.drewN m1))=>yae hx hx.size hb2) (yab (Below.refl _ _) _);have hx2:=HCL.out _ hb3)
   | (go_at_call 29;refine(ybs.calls kf kind x true _ HKF.out).mono ?_;rintro e w3 ⟨rfl,⟨m3,rfl⟩⟩;have hx3:=HCL.out _ (yab hb3 m3)))
  go_region
  all_goals go_wp2_with (go_at_call 39;refine(HG.out _ (by repeat (first|exact hb3|apply yab))).mono ?_;rintro e w4 ⟨rfl,⟨m4,rfl⟩⟩)
  all_goals go_ret2
  all_goals rw[← HE.out]
  all_goals exact yby.none (by decide) (by repeat (first|exact hb3|apply yab))
 ·have heb:(er == 0)=false:=by simpa using he0
  have HE0:=Lib.hid he0
  clear he
  go_enter Tryz.func19,Tryz.ntmps19
  go_upto_region 11 with (first
   | (go_at_call 28;refine(yb3.calls kind false _ HK.out).mono ?_;rintro e w1 ⟨rfl,⟨m1,rfl⟩⟩)
   | (go_at_call 38;refine(HS.out _ (by repeat (first|exact Below.refl _ _|apply yab))).mono ?_;rintro e w2 ⟨rfl,hb2⟩;have hb3:=(fun(hx:Below w.heap.size w (w.drewN m1))=>yae hx hx.size hb2) (yab (Below.refl _ _) _);have hx2:=HCL.out _ hb3)
   | (go_at_call 29;refine(ybs.calls kf kind x true _ HKF.out).mono ?_;rintro e w3 ⟨rfl,⟨m3,rfl⟩⟩;have hx3:=HCL.out _ (yab hb3 m3)))
  go_region
  all_goals go_wp2_with (go_at_call 39;refine(HG.out _ (by repeat (first|exact hb3|apply yab))).mono ?_;rintro e w4 ⟨rfl,⟨m4,rfl⟩⟩)
  all_goals go_ret2
  all_goals rw[← HE.out,if_pos HE0.out]
  all_goals exact yby.none HE0.out (by repeat (first|exact hb3|apply yab))
def yf9 (kind codec:Int):Prop:=∀ (A:Option Addr) (c:Nat) (b:List Int) (n:Nat) (w:World),Kd.C (Kd.int .u8) w A b.length b→b.length≤c→Bys b→b.length≤65000→n≤4096 →
  Calls Tryz.prog 41 #[.int .i64 kind,.int .i64 codec,.slice A b.length c,.int .i64 n] w (yd4 w (ybi kind codec b n).1 (ybi kind codec b n).2)
def yha (kind codec:Int):Prop:=∀ (b:List Int) (n:Nat),Bys b→(ybi kind codec b n).2=0→∀ c∈(ybi kind codec b n).1,yf0 c
def yhf (kind codec:Int) (l:List Int) (r:List Int×Nat×Int):List Cel×Int:=
 if r.2.2≠0 then ([],r.2.2) else
 if (ybi kind codec (l.drop r.2.1) (ya8 r.1)).2≠0 then ([],(ybi kind codec (l.drop r.2.1) (ya8 r.1)).2) else
 if yc0 kind (yc4 r.1 (ybi kind codec (l.drop r.2.1) (ya8 r.1)).1)≠0 then ([],yc0 kind (yc4 r.1 (ybi kind codec (l.drop r.2.1) (ya8 r.1)).1)) else
 (yc4 r.1 (ybi kind codec (l.drop r.2.1) (ya8 r.1)).1,0)
theorem yrf {kind:Int} {b:List Int} {n q:Nat} (h0:b.length≠0) (hf:ycz kind (b.getD 0 0)) (hv:vget b 1=(n,q,0)) (hn:n≤4096):yfs kind b=yhf kind (b.getD 0 0) (b.drop q) (ybt (b.drop q) 0 n):=by
 unfold yfs
 rw[if_neg h0,if_neg (by simpa using hf),hv]
 simp only
 rw[if_neg (by simp),if_neg (by omega),yph]
 unfold yhf
 simp only
 by_cases h:(ybt (b.drop q) 0 n).2.2=0
 ·have hh:¬ (ybt (b.drop q) 0 n).2.2≠0:=fun e=>e h
  rw[if_neg hh,if_neg hh,if_pos h,List.drop_drop]
 ·have hh:(ybt (b.drop q) 0 n).2.2≠0:=h
  rw[if_pos hh,if_pos hh]
def ye1:List Value:=[.bool false,.int .i64 0,.slice none 0 0]
theorem yqo (n:Nat) (hn:n≤4096):∃ o,∀ W:World,(Instr.makeSlice 22 (.int .u64 (n:Int)) (.int .u64 (n:Int))).run Tryz.prog W=.ok (.slice (some ⟨W.heap.size,0,none⟩) n n) (W.alloc o) ∧
  Kd.R (Kd.raw 3) 53 (W.alloc o) W.heap.size (fun _=>True) (.slice (some ⟨W.heap.size,0,none⟩) n n) (List.replicate n ye1):=by
 obtain⟨i0,hi,hz0,hz1,hz2⟩:=info_parts ygj
 refine⟨.cells (madeCells #[.bool false,.int .i64 0,.slice none 0 0] (n*3)) 53,fun W=>?_⟩
 have hr:=run_make (P:=Tryz.prog) W 22 53 i0 _ Tryz.underlying22 hi hz0 .u64 .u64 (n:Int) (n:Int) (by omega) (by omega) (by rw[hz2];omega) (by omega)
 simp only[Int.toNat_natCast] at hr
 rw[hz1] at hr
 have ho:=World.ownsRow_lit (base:=W.heap.size) (e:=53) (size:=3) W (madeCells #[.bool false,.int .i64 0,.slice none 0 0] (n*3)) n (Nat.le_refl _) (by unfold maxLen;omega) (by simp [size_madeCells])
 refine⟨hr,fun _ _=>trivial,_,by rw[List.length_replicate];exact ho,?_⟩
 exact Kd.reps_made (z:=.agg #[.bool false,.int .i64 0,.slice none 0 0]) (z0:=ye1) rfl (by decide) ⟨rfl,rfl,by decide⟩ n
theorem ymv {W:World} {base g n cap:Nat} {L:List (List Value)} (h:Kd.R (Kd.raw 3) 53 W base (fun _=>True) (.slice (some ⟨g,0,none⟩) n cap) L) {i:Nat} (hi:i<n) {r:List Value} (hr:L[i]?=some r) (j:Nat) (seg:List Value) (hj:j+seg.length≤3) (h1:∀ u∈seg,u.oneCell'=true) :
  Kd.R (Kd.raw 3) 53 (W.setCells g (i*3+j) seg) base (fun _=>True) (.slice (some ⟨g,0,none⟩) n cap) (L.set i (r.take j++seg++r.drop (j+seg.length))):=by
 obtain⟨c,hcl,hM,hcc,hfr⟩:=Kd.R_elem h [] (i:Int) (by omega) (by omega)
 have hcr:c=r:=by rw[hM.1,Int.toNat_natCast,List.getD_eq_getElem?_getD,hr,Option.getD_some]
 subst hcr
 have hcl3:c.length=3:=hcl
 have h2:=(Kd.R_seg h (i:Int) (by omega) (by omega) (x':=c.take j++seg++c.drop (j+seg.length)) (okp:=fun _=>False) hcl hcc hj ⟨rfl,by
  simp only[List.length_append,List.length_take,List.length_drop];omega,fun u hu=>by
  rcases List.mem_append.1 hu with hu|hu
  ·rcases List.mem_append.1 hu with hu|hu
   ·exact hM.2.2 u (List.mem_of_mem_take hu)
   ·exact h1 u hu
  ·exact hM.2.2 u (List.mem_of_mem_drop hu)⟩ (fun _ hk=>hk.elim)).1
 rw[Int.toNat_natCast] at h2
 exact h2
theorem set_mid {α:Type} (A:List α) (z x:α) {n i:Nat} (hA:A.length=i) (hi:i<n):(A++List.replicate (n-i) z).set i x=(A++[x])++List.replicate (n-(i+1)) z:=by
 obtain⟨k,hk⟩:∃ k,n-i=k+1:=⟨n-i-1,by omega⟩
 rw[hk,show n-(i+1)=k by omega,List.replicate_succ,List.set_append_right _ _ (by omega),hA,Nat.sub_self,List.set_cons_zero,List.append_assoc]
 rfl
theorem get_mid {α:Type} (A:List α) (z:α) {n i:Nat} (hA:A.length=i) (hi:i<n):(A++List.replicate (n-i) z)[i]?=some z:=by
 rw[List.getElem?_append_right (by omega),hA,Nat.sub_self,List.getElem?_replicate,if_pos (by omega)]
theorem set_mid2 {α:Type} (A B:List α) (z x:α) {i:Nat} (hA:A.length=i):((A++[z])++B).set i x=(A++[x])++B:=by
 rw[List.append_assoc,List.set_append_right _ _ (by omega),hA,Nat.sub_self,List.append_assoc]
 rfl
theorem yn4 {us:List Int} {vs:List Cel} (h:∀ c∈vs,yf0 c):∀ c∈yc4 us vs,yf0 c:=by
 intro c hc
 rw[yis] at hc
 rcases yg4 hc with rfl|hc
 ·exact⟨by unfold yex I64;decide,(fun x hx=>by cases hx),by decide⟩
 ·exact h c hc
theorem cut_cells (A:Option Addr) (c:Nat) (xs:List (List Value)) (m:Nat) (hm:m≤xs.length) (hc:xs.length≤c) :
  ∃ A':Option Addr,(∀ W:World,(Instr.slice 22 (.slice A xs.length c) (some (.int .i64 (m:Int))) none none).run Tryz.prog W=.ok (.slice A' (xs.length-m) (c-m)) W) ∧
   (∀ w:World,Kd.C (Kd.raw 3) w A xs.length xs→Kd.C (Kd.raw 3) w A' (xs.length-m) (xs.drop m))∧xs.length-m≤c-m:=by
 obtain⟨i0,hi0,_,hsz,_⟩:=info_parts ygj
 have h1:=ylr (P:=Tryz.prog) 22 53 .i64 Tryz.underlying22 hi0 3 hsz A xs.length c (m:Int) (by omega) (by omega)
 simp only[Int.toNat_natCast] at h1
 refine⟨_,h1,fun w h=>?_,by omega⟩
 have h2:=Kd.C_drop h hm hc
 rw[List.length_drop] at h2
 exact h2
theorem bdec_rest (kind:Int) (A:Option Addr) (c:Nat) (b y:List Int) (w:World) (h:Kd.C (Kd.int .u8) w A b.length b) (hc:b.length≤c) (hb:Bys b) (h1:¬ (kind<1∨8<kind)) (hl:¬ 65000<b.length) (hs:yc9 b=true) (h4:b.length≠4) (hf:ycz kind (b.getD 0 0)) (hy:y=b.take (b.length-4))
  (hRB:yf9 kind (b.getD 0 0)) (hCO:yha kind (b.getD 0 0)) (n q:Nat) (hv:vget y 1=(n,q,0)) (hn:n≤4096) :
  Calls Tryz.prog 19 #[.int .i64 kind,.slice A b.length c] w (yby w (yhf kind (b.getD 0 0) (y.drop q) (ybt (y.drop q) 0 n)).1 (yhf kind (b.getD 0 0) (y.drop q) (ybt (y.drop q) 0 n)).2):=by
 have hbk:=ye4 kind
 rw[decide_eq_false h1] at hbk
 have hge:=yiv hs
 obtain⟨kf,hkf⟩:=yik (kind:=kind) ⟨by omega,by omega⟩ (b.getD 0 0)
 rw[decide_eq_true hf] at hkf
 have HK:=Lib.hid hbk
 have hi:decide ((65000:Int)<(b.length:Int))=false:=by simp;omega
 have hsl:=fun(w2:World) (hb2:Below w.heap.size w w2)=>yg6 A c b w2 (Kd.C_below h hb2) hc hb (by omega)
 rw[hs] at hsl
 have hyl:y.length=b.length-4:=by rw[hy,List.length_take];omega
 have hyb:Bys y:=by rw[hy];exact hb.take _
 have hCy:Kd.C (Kd.int .u8) w A y.length y:=by rw[hy];exact Kd.C_take h (by omega)
 have hq:q≤y.length:=by have:=ycp hyb (p:=1) (by rw[hv]);rw[hv] at this;exact this.1
 obtain⟨i5,hi5,hz0,hz1,hz2⟩:=info_parts ycj
 have hct:=ykd (P:=Tryz.prog) 25 5 .i64 Tryz.underlying25 hi5 A b.length c ((b.length:Int)-4) (by omega) (by omega) hc
 rw[show((b.length:Int)-4).toNat=y.length by omega] at hct
 have hg:=fun(w2:World) (hb2:Below w.heap.size w w2)=>yfn (c:=c) hCy (by omega) hyb (by omega) (p:=1) (by omega) w2 hb2
 rw[show((1:Nat):Int)=1 from rfl,hv] at hg
 obtain⟨ad,rfl,hx0⟩:=Kd.at_int h (0:Int) (by omega) (by omega)
 have a0:ad.add 0=ad:=by simp [Addr.add]
 rw[show rd b (0:Int)=b.getD 0 0 from rfl,show(0:Int).toNat=0 from rfl,a0] at hx0
 have hxb:0≤b.getD 0 0∧b.getD 0 0<256:=by
  rw[List.getD_eq_getElem?_getD,List.getElem?_eq_getElem (show 0<b.length by omega)]
  exact hb _ (List.getElem_mem (by omega))
 obtain⟨B1,hcut1,hB1,hcc1⟩:=ygt (some ad) c y q hq (by omega)
 obtain⟨l,hll⟩:∃ l,l=y.drop q:=⟨_,rfl⟩
 have hllen:y.length-q=l.length:=by rw[hll,List.length_drop]
 have hlb:Bys l:=by rw[hll];exact hyb.drop q
 have hl65:l.length≤65000:=by omega
 rw[hllen,← hll] at hB1
 rw[hllen] at hcut1 hcc1
 have hrn:=fun(w2:World) (hb2:Below w.heap.size w w2)=>yn2 B1 (c-q) l n w2 (hB1 w2 (Kd.C_below hCy hb2)) hcc1 hlb hl65 hn
 rw[← hll]
 have hnb:=@yj2 l hlb 0 n
 generalize b.getD 0 0=x at *
 have hcl:=fun(w2:World) (hb2:Below w.heap.size w w2)=>(hb2.cell (World.block_lt_of_cell? w _ hx0)).trans hx0
 have hwx:IntKind.i64.wrap x=x:=ydm _ (by omega) (by omega)
 have hpos:(0:Int)<(b.length:Int):=by omega
 have h4b:((b.length:Int) == 4)=false:=by simp;omega
 have h4i:¬ (b.length:Int)=4:=by omega
 have hwl:wrap64 ((b.length:Int)-4)=(b.length:Int)-4:=w64 (by omega) (by omega)
 have hni:decide ((4096:Int)<(n:Int))=false:=by simp;omega
 have hwn:IntKind.i64.wrap (n:Int)=(n:Int):=ydm _ (by omega) (by omega)
 generalize hR:ybt l 0 n=r at *
 obtain⟨us,t,er⟩:=r
 simp only at hnb
 have HS:=Lib.hid hsl;have HCL:=Lib.hid hcl;have HKF:=Lib.hid hkf;have HG:=Lib.hid hg;have HRN:=Lib.hid hrn;have HLL:=Lib.hid hllen
 clear hbk h1 hsl h hb hs hx0 hcl hkf hg hCy hyb hi5 hz0 hz1 hz2 hl hrn hB1 hcc1 hR hv hll hllen
 have hyl2:=Lib.hid hyl
 clear hyl hy
 by_cases he0:er=0
 ·subst he0
  obtain⟨hul,hu01,htl,hdr⟩:=hnb rfl
  clear hdr
  subst hul
  have hzl:ya8 us≤us.length:=List.count_le_length
  have hdl:(l.drop t).length=l.length-t:=List.length_drop
  have hrb:=fun(A2:Option Addr) (c2:Nat) (w2:World) (hC:Kd.C (Kd.int .u8) w2 A2 (l.length-t) (l.drop t)) (hc2:l.length-t≤c2)=>hRB A2 c2 (l.drop t) (ya8 us) w2 (by rw[hdl];exact hC) (by omega) (hlb.drop t) (by omega) (by omega)
  rw[hdl] at hrb
  have hcb:=ykk (hlb.drop t) hf (n:=ya8 us)
  have hco:=hCO (l.drop t) (ya8 us) (hlb.drop t)
  have hXX:yhf kind x l (us,t,0)=if (ybi kind x (l.drop t) (ya8 us)).2≠0 then ([],(ybi kind x (l.drop t) (ya8 us)).2) else if yc0 kind (yc4 us (ybi kind x (l.drop t) (ya8 us)).1)≠0 then ([],yc0 kind (yc4 us (ybi kind x (l.drop t) (ya8 us)).1)) else (yc4 us (ybi kind x (l.drop t) (ya8 us)).1,0):=rfl
  rw[hXX]
  clear hXX
  generalize ybi kind x (l.drop t) (ya8 us)=D at *
  obtain⟨vs,ev⟩:=D
  simp only at hrb hcb hco ⊢
  have HRB:=Lib.hid hrb;have HCB:=Lib.hid hcb;have HCO:=Lib.hid hco;have HU:=Lib.hid hu01;have HZL:=Lib.hid hzl;have HTL:=Lib.hid htl
  clear hrb hcb hco hu01 hzl htl hdl hnb hRB hCO hf hlb
  obtain⟨o,ho⟩:=yqo us.length hn
  have hmk:=fun W=>(ho W).1
  have HMR:=Lib.hid (fun W=>(ho W).2)
  clear ho
  generalize hXX:(if ev≠0 then (([]:List Cel),ev) else if yc0 kind (yc4 us vs)≠0 then ([],yc0 kind (yc4 us vs)) else (yc4 us vs,0))=XX
  have HXX:=Lib.hid hXX
  clear hXX
  go_enter Tryz.func19,Tryz.ntmps19
  go_upto_region 11 with (first
   | (go_at_call 28;refine(yb3.calls kind false _ HK.out).mono ?_;rintro e w1 ⟨rfl,⟨m1,rfl⟩⟩)
   | (go_at_call 38;refine(HS.out _ (by repeat (first|exact Below.refl _ _|apply yab))).mono ?_;rintro e w2 ⟨rfl,hb2⟩;have hb3:=(fun(hx:Below w.heap.size w (w.drewN m1))=>yae hx hx.size hb2) (yab (Below.refl _ _) _);have hx2:=HCL.out _ hb3)
   | (go_at_call 29;refine(ybs.calls kf kind x true _ HKF.out).mono ?_;rintro e w3 ⟨rfl,⟨m3,rfl⟩⟩;have hx3:=HCL.out _ (yab hb3 m3)))
  go_region
  all_goals go_upto_region 20 with (first
   | (go_at_call 39;refine(HG.out _ (by repeat (first|exact hb3|apply yab))).mono ?_;rintro e w4 ⟨rfl,⟨m4,rfl⟩⟩)
   | (go_at_call 40;refine(HRN.out _ (by repeat (first|exact hb3|apply yab))).mono ?_;rintro e w5 ⟨v5,v6,rfl,hb5,hNR⟩;obtain⟨⟨A1,c1,rfl,hc1,hC1⟩,A2,c2,rfl,hc2,hC2⟩:=hNR rfl;have hB5:=(fun(hx:Below w.heap.size w _)=>yae hx hx.size hb5) (by repeat (first|exact hb3|apply yab));have HC1:=Lib.hid hC1;have HC2:=Lib.hid hC2;have HB5:=Lib.hid hB5;clear hC1 hC2 hB5 hNR hb5))
  go_wp2
  go_loop [12,80] (fun v12 v80=>∃ i:Nat,i≤us.length∧v80=.int .i64 i∧v12=.int .i64 ((ya8 (us.take i):Nat):Int)) (fun _ v80=>us.length-(intOf v80).toNat)
  case atStart=>exact⟨0,Nat.zero_le _,rfl,rfl⟩
  case round =>
   obtain⟨i,hi9,rfl,rfl⟩:=hrel
   have hzi:ya8 (us.take i)≤4096:=Nat.le_trans List.count_le_length (by rw[List.length_take];omega)
   by_cases hlt:i<us.length
   ·obtain⟨ad1,rfl,hx⟩:=Kd.at_int HC1.out (i:Int) (by omega) (by omega)
    rw[ybj hlt,Int.toNat_natCast] at hx
    have hsn:=yht (us.take i) us[i]
    rw[ybd us i hlt] at hsn
    rcases HU.out us[i] (List.getElem_mem hlt) with h0|h0
    ·rw[h0] at hx hsn
     rw[if_pos rfl] at hsn
     have HSN:=Lib.hid hsn
     generalize ya8 (us.take i)=z at *
     clear hsn h0
     go_wp2
     go_round
     case rel=>exact⟨i+1,by omega,by go_num,by rw[HSN.out];go_num⟩
     case measure=>simp [intOf];omega
    ·rw[h0] at hx hsn
     rw[if_neg (by decide)] at hsn
     have HSN:=Lib.hid hsn
     generalize ya8 (us.take i)=z at *
     clear hsn h0
     go_wp2
     go_round
     case rel=>exact⟨i+1,by omega,by go_num,by rw[HSN.out];go_num⟩
     case measure=>simp [intOf];omega
   ·obtain rfl:i=us.length:=by omega
    have hta:us.take us.length=us:=List.take_length
    rw[hta] at *
    clear hta
    have hlf:¬ us.length<us.length:=by omega
    have hbs:=fun(w2:World) (hb:Below w5.heap.size w5 w2)=>yae HB5.out HB5.out.size hb
    by_cases hev:ev=0
    ·subst hev
     have hvl:=(HCB.out rfl).1
     generalize hzz:ya8 us=z at *
     have HZZ:=Lib.hid hzz
     clear hzz
     go_upto_region 29 with (go_at_call 41;refine(HRB.out A2 c2 _ HC2.out hc2).mono ?_;rintro e w6 ⟨v6,rfl,hb6,hCB⟩;obtain⟨ts,hts,hT⟩:=hCB rfl;obtain⟨rows,hrows⟩:∃ rows,rows=ts.map OwnT.row:=⟨_,rfl⟩;have hTr:=hT.row;rw[← hrows] at hTr;obtain⟨A3,c3,rfl,hc3,hC3⟩:=Kd.R_reads hTr;have hrl:rows.length=z:=(by rw[hrows,List.length_map,← hvl,← hts,List.length_map]);have HRW:=Lib.hid hrows;have HRL:=Lib.hid hrl;clear hrows hrl hTr;have HT:=Lib.hid hT;have HC3:=Lib.hid hC3;have HB6:=Lib.hid hb6;have HTS:=Lib.hid hts;clear hT hC3 hb6 hts hCB)
     clear hvl
     go_upto_region 30 with (fail)
     have HR7:=Lib.hid (HMR.out w6)
     have HB7:=Lib.hid (yaj (Below.refl w6.heap.size w6) o)
     generalize w6.alloc o=w7 at *
     clear hmk HMR
     go_wp2
     go_loopw [15,105] (fun v15 v105 wq=>∃ (i:Nat) (A':Option Addr) (c':Nat),i≤us.length∧v105=.int .i64 i∧v15=.slice A' (rows.drop (ya8 (us.take i))).length c'∧(rows.drop (ya8 (us.take i))).length≤c'∧RowKit.Hid (Kd.C (Kd.raw 3) w6 A' (rows.drop (ya8 (us.take i))).length (rows.drop (ya8 (us.take i)))) ∧
      RowKit.Hid (Kd.R (Kd.raw 3) 53 wq w6.heap.size (fun _=>True) (.slice (some ⟨w6.heap.size,0,none⟩) us.length us.length) (ycr yem.row (us.take i) rows++List.replicate (us.length-i) ye1))∧RowKit.Hid (Below w6.heap.size w6 wq)) (fun _ v105 _=>us.length-(intOf v105).toNat)
     case atStart=>exact⟨0,A3,c3,Nat.zero_le _,rfl,by simp [ya8],by simpa [ya8] using hc3,by simpa [ya8] using HC3,by simpa [ycr] using HR7,HB7⟩
     case round =>
      obtain⟨i,A',c',hi9,rfl,rfl,hc9,HCR,HR9,HB9⟩:=hrel
      by_cases hlt:i<us.length
      ·have hb5q:=yae HB6.out HB6.out.size HB9.out
       obtain⟨ad1,rfl,hx⟩:=Kd.at_int (Kd.C_below HC1.out hb5q) (i:Int) (by omega) (by omega)
       rw[ybj hlt,Int.toNat_natCast] at hx
       have hml:(ycr yem.row (us.take i) rows).length=i:=by rw[yh6,List.length_take];omega
       obtain⟨cc,hcl,hM,hcc,hfr⟩:=Kd.R_elem HR9.out [] (i:Int) (by omega) (by omega)
       have hgm:=get_mid (ycr yem.row (us.take i) rows) ye1 hml hlt
       have hcz:cc=ye1:=by rw[hM.1,Int.toNat_natCast,List.getD_eq_getElem?_getD,hgm,Option.getD_some]
       subst hcz
       have k0:=hcc 0 _ rfl;have k1:=hcc 1 _ rfl;have k2:=hcc 2 _ rfl
       have f0:=hfr 0;have f1:=hfr 1;have f2:=hfr 2
       simp only[Int.toNat_natCast,Nat.add_zero,show(Kd.raw 3).sz=3 from rfl] at k0 k1 k2 f0 f1 f2
       have HGM:=Lib.hid hgm
       have HML:=Lib.hid hml
       clear hcc hfr hM hcl hgm hml
       have HSN:=Lib.hid (yht (us.take i) us[i])
       rw[ybd us i hlt] at HSN
       have HMN:=Lib.hid (yi8 yem.row us[i] (us.take i) rows (fun x hx=>HU.out x (List.mem_of_mem_take hx)))
       rw[ybd us i hlt] at HMN
       rcases HU.out us[i] (List.getElem_mem hlt) with h0|h0
       ·rw[h0] at hx HSN HMN
        rw[if_pos rfl] at HSN
        rw[if_neg (by decide)] at HMN
        have hzlt:ya8 (us.take i)<rows.length:=by
         have h5:ya8 (us.take (i+1))≤ya8 us:=(List.take_sublist (i+1) us).count_le 0
         have h6:=HSN.out
         have h7:=HRL.out
         have h8:=HZZ.out
         omega
        have HLT:=Lib.hid hlt
        clear h0
        obtain⟨z9,hz9⟩:∃ z9,z9=ya8 (us.take i):=⟨_,rfl⟩
        rw[← hz9] at hzlt hc9 HCR HSN HMN ⊢
        have HZ9:=Lib.hid hz9
        clear hz9
        have htsl:ts.length=rows.length:=by rw[HRW.out,List.length_map]
        obtain⟨t9,ht9⟩:∃ t9,ts[z9]?=some t9:=⟨_,List.getElem?_eq_getElem (by omega)⟩
        have hr9:rows[z9]?=some t9.row:=by rw[HRW.out,List.getElem?_map,ht9];rfl
        obtain⟨A9,k9,hu9,_,_⟩:=(HT.out.each t9 (List.mem_of_getElem? ht9)).reads
        have hdr9:rows.drop z9=t9.row::rows.drop (z9+1):=by
         rw[List.drop_eq_getElem_cons hzlt]
         congr 1
         rw[List.getElem?_eq_getElem hzlt] at hr9
         injection hr9
        have hdl9:(rows.drop z9).length=(rows.drop (z9+1)).length+1:=by rw[hdr9];rfl
        obtain⟨adv,rfl,hcell⟩:=HCR.out.2.2 (by omega)
        obtain⟨cv,hcv,hKv,hce⟩:=hcell 0 t9.row (by rw[hdr9];rfl)
        obtain⟨rfl,_⟩:=hKv
        obtain⟨A8,hcut8,hC8,hcc8⟩:=cut_cells (some adv) c' (rows.drop z9) 1 (by omega) hc9
        rw[show((1:Nat):Int)=1 from rfl] at hcut8
        have q0:=hce 0 _ rfl
        have q1:=hce 1 _ rfl
        have q2:=hce 2 _ rfl
        rw[hu9] at q2
        have a9:adv.add (0*(Kd.raw 3).sz+0)=adv:=by simp [Addr.add]
        rw[a9] at q0
        clear a9
        have e1:adv.add (0*(Kd.raw 3).sz+1)=⟨adv.block,adv.off+1,none⟩:=by simp [Addr.add]
        have e2:adv.add (0*(Kd.raw 3).sz+2)=⟨adv.block,adv.off+2,none⟩:=by simp [Addr.add]
        rw[e1] at q1
        rw[e2] at q2
        clear e1 e2
        have hs1:=ymv HR9.out hlt HGM.out 0 [.bool false] (by decide) (by decide)
        rw[set_mid _ _ _ HML.out hlt,show List.take 0 ye1++[Value.bool false]++List.drop (0+[Value.bool false].length) ye1=ye1 from rfl] at hs1
        have hs2:Kd.R (Kd.raw 3) 53 (wr.setCell ⟨w6.heap.size,i*3,none⟩ (.bool false)) w6.heap.size (fun _=>True) (.slice (some ⟨w6.heap.size,0,none⟩) us.length us.length) _:=hs1
        have HS1:=Lib.hid hs2;have HC8:=Lib.hid hC8;have HHD:=Lib.hid hdl9;have HDR:=Lib.hid hdr9;have HZL9:=Lib.hid hzlt;have HCW:=Lib.hid (HCR.out)
        have hpos9:(0:Int)<((rows.drop z9).length:Int):=by omega
        clear hs1 hs2 hC8 hdl9 hdr9 hcell hce hr9 htsl hcv hzlt
        generalize rows.drop z9=R9 at *
        go_upto_region 35 with (fail)
        clear k0 k1 k2 f0 f1 f2 hx
        have HBa:=Lib.hid (Below.setCell (p:=⟨w6.heap.size,i*3,none⟩) HB9.out (Nat.le_refl _) (.bool false))
        generalize wr.setCell ⟨w6.heap.size,i*3,none⟩ (.bool false)=wa at *
        have hg2:((ycr yem.row (us.take i) rows++[ye1])++List.replicate (us.length-(i+1)) ye1)[i]?=some ye1:=by
         rw[List.append_assoc,List.getElem?_append_right (by rw[HML.out];omega),HML.out,Nat.sub_self];rfl
        obtain⟨cc,hcl,hM,hcc,hfr⟩:=Kd.R_elem HS1.out [] (i:Int) (by omega) (by omega)
        have hcz:cc=ye1:=by rw[hM.1,Int.toNat_natCast,List.getD_eq_getElem?_getD,hg2,Option.getD_some]
        subst hcz
        have k0:=hcc 0 _ rfl;have k1:=hcc 1 _ rfl;have k2:=hcc 2 _ rfl
        have f0:=hfr 0;have f1:=hfr 1;have f2:=hfr 2
        simp only[Int.toNat_natCast,Nat.add_zero,show(Kd.raw 3).sz=3 from rfl] at k0 k1 k2 f0 f1 f2
        have HG2:=Lib.hid hg2
        clear hcc hfr hM hcl hg2
        replace q0:=(HBa.out.cell (World.block_lt_of_cell? w6 _ q0)).trans q0
        replace q1:=(HBa.out.cell (World.block_lt_of_cell? w6 _ q1)).trans q1
        replace q2:=(HBa.out.cell (World.block_lt_of_cell? w6 _ q2)).trans q2
        clear HB9 HR9 HGM
        have hrow:t9.row=[.bool t9.c.f0,.int .i64 t9.c.f1,.slice A9 t9.c.f2.length k9]:=by unfold OwnT.row celV;rw[hu9]
        have hs3:=ymv HS1.out hlt HG2.out 0 [.bool t9.c.f0,.int .i64 t9.c.f1,.slice A9 t9.c.f2.length k9] (show 0+3≤3 from Nat.le_refl _) (by intro u hu;simp only[List.mem_cons,List.not_mem_nil,or_false] at hu;rcases hu with rfl|rfl|rfl <;> rfl)
        have e3:((ycr yem.row (us.take i) rows++[ye1])++List.replicate (us.length-(i+1)) ye1).set i (ye1.take 0++[.bool t9.c.f0,.int .i64 t9.c.f1,.slice A9 t9.c.f2.length k9]++ye1.drop (0+[Value.bool t9.c.f0,.int .i64 t9.c.f1,.slice A9 t9.c.f2.length k9].length))=ycr yem.row (us.take (i+1)) rows++List.replicate (us.length-(i+1)) ye1:=by
         have hh:(R9.headD yem.row)=t9.row:=by rw[HDR.out];rfl
         have hp:ye1.take 0++[.bool t9.c.f0,.int .i64 t9.c.f1,.slice A9 t9.c.f2.length k9]++ye1.drop (0+[Value.bool t9.c.f0,.int .i64 t9.c.f1,.slice A9 t9.c.f2.length k9].length)=t9.row:=hrow.symm
         rw[hp,set_mid2 _ _ _ _ HML.out,HMN.out,hh]
        rw[e3] at hs3
        have hs4:Kd.R (Kd.raw 3) 53 (((wa.setCell ⟨w6.heap.size,i*3,none⟩ (.bool t9.c.f0)).setCell ⟨w6.heap.size,i*3+1,none⟩ (.int .i64 t9.c.f1)).setCell ⟨w6.heap.size,i*3+2,none⟩ (.slice A9 t9.c.f2.length k9)) w6.heap.size (fun _=>True) (.slice (some ⟨w6.heap.size,0,none⟩) us.length us.length) (ycr yem.row (us.take (i+1)) rows++List.replicate (us.length-(i+1)) ye1):=hs3
        have HS4:=Lib.hid (Kd.R_drew hs4)
        have HB4:=Lib.hid (yam (Below.setCell (p:=⟨w6.heap.size,i*3+2,none⟩) (Below.setCell (p:=⟨w6.heap.size,i*3+1,none⟩) (Below.setCell (p:=⟨w6.heap.size,i*3,none⟩) HBa.out (Nat.le_refl _) (.bool t9.c.f0)) (Nat.le_refl _) (.int .i64 t9.c.f1)) (Nat.le_refl _) (.slice A9 t9.c.f2.length k9)))
        clear hs3 hs4 e3 hrow HS1 HBa
        go_region
        generalize (((wa.setCell ⟨w6.heap.size,i*3,none⟩ (.bool t9.c.f0)).setCell ⟨w6.heap.size,i*3+1,none⟩ (.int .i64 t9.c.f1)).setCell ⟨w6.heap.size,i*3+2,none⟩ (.slice A9 t9.c.f2.length k9)).drew=wb at *
        clear q0 q1 q2 k0 k1 k2 f0 f1 f2
        go_wp2
        have hR9l:R9.length-1=(rows.drop (z9+1)).length:=by rw[HDR.out];rfl
        have hR9t:R9.drop 1=rows.drop (z9+1):=by rw[HDR.out];rfl
        have hc10:=HC8.out _ HCW.out
        rw[hR9l,hR9t] at hc10
        rw[hR9l] at hcc8 ⊢
        exact⟨⟨i+1,A8,c' - 1,HLT.out,by go_num,by rw[HSN.out],by rw[HSN.out];exact hcc8,by rw[HSN.out];exact Lib.hid hc10,HS4,HB4⟩,by have:=HLT.out;simp [intOf];omega⟩
       ·rw[h0] at hx HSN HMN
        have HLT:=Lib.hid hlt
        clear h0
        go_wp2
        have hs1:=ymv HR9.out HLT.out HGM.out 0 [.bool true] (by decide) (by decide)
        rw[set_mid _ _ _ HML.out HLT.out,show List.take 0 ye1++[Value.bool true]++List.drop (0+[Value.bool true].length) ye1=yem.row from rfl,← show ycr yem.row (us.take (i+1)) rows=ycr yem.row (us.take i) rows++[yem.row] from by rw[HMN.out,if_pos rfl]] at hs1
        have hz1:ya8 (us.take (i+1))=ya8 (us.take i):=by rw[HSN.out,if_neg (by decide),Nat.add_zero]
        exact⟨⟨i+1,A',c',HLT.out,by go_num,by rw[hz1],by rw[hz1];exact hc9,by rw[hz1];exact HCR,Lib.hid hs1,Lib.hid (Below.setCell HB9.out (Nat.le_refl _) _)⟩,by have:=HLT.out;simp [intOf];omega⟩
      ·obtain rfl:i=us.length:=by omega
       have hta:us.take us.length=us:=List.take_length
       rw[hta,Nat.sub_self,List.replicate_zero,List.append_nil] at HR9
       clear hta HCR hc9
       have hr9:=HR9.out
       rw[HRW.out] at hr9
       have hCB:=HT.out.merge HB9.out (Kd.R_lower hr9 HB6.out.size)
       rw[HTS.out] at hCB
       have hb5q:=yae HB6.out HB6.out.size HB9.out
       have hbq:=yae HB5.out HB5.out.size hb5q
       have hCL:=hCB.lower HB5.out.size
       obtain⟨Ao,co,hvo,hco9,hCo⟩:=hCB.reads
       injection hvo with ev1 ev2 ev3
       subst ev1 ev3
       have hck:=yjm kind (yc4 us vs) (some ⟨w6.heap.size,0,none⟩) us.length wr hCo hco9 (yn4 (HCO.out (by trivial)))
       rw[← ev2] at hck
       have hX:=HXX.out
       rw[if_neg (by decide)] at hX
       have HBQ:=Lib.hid hbq;have HCL2:=Lib.hid hCL
       clear hr9 hCB hCo hco9 ev2 hb5q hbq hCL HXX HB9 HR9
       generalize yc4 us vs=cs at *
       have HCK:=Lib.hid hck
       clear hck
       by_cases hch:yc0 kind cs=0
       ·rw[if_neg (by simpa using hch)] at hX
        subst hX
        rw[hch] at HCK
        clear hch
        go_wp2_with (go_at_call 30;refine HCK.out.mono ?_;rintro e w8 ⟨rfl,hb8⟩)
        go_ret2
        exact⟨_,rfl,yae HBQ.out HBQ.out.size hb8,fun _=>HCL2.out.below hb8,fun h=>absurd rfl h⟩
       ·rw[if_pos hch] at hX
        subst hX
        generalize yc0 kind cs=ech at *
        have HE0:=Lib.hid hch
        have hchb:(ech == 0)=false:=by simpa using hch
        clear hch
        go_wp2_with (go_at_call 30;refine HCK.out.mono ?_;rintro e w8 ⟨rfl,hb8⟩)
        go_ret2
        exact yby.none HE0.out (yae HBQ.out HBQ.out.size hb8)
    ·have hevb:(ev == 0)=false:=by simpa using hev
     have hX:=HXX.out
     rw[if_pos hev] at hX
     subst hX
     have HE0:=Lib.hid hev
     clear hev HXX hmk
     go_wp2_with (go_at_call 41;refine(HRB.out A2 c2 _ HC2.out hc2).mono ?_;rintro e w6 ⟨v6,rfl,hb6,hCB⟩;clear hCB)
     go_ret2
     exact yby.none HE0.out (yae HB5.out HB5.out.size hb6)
 ·have heb:(er == 0)=false:=by simpa using he0
  have hX:yhf kind x l (us,t,er)=([],er):=by unfold yhf;rw[if_pos he0]
  rw[hX]
  have HE0:=Lib.hid he0
  clear hX he0 hnb hf hlb hRB hCO
  go_enter Tryz.func19,Tryz.ntmps19
  go_upto_region 11 with (first
   | (go_at_call 28;refine(yb3.calls kind false _ HK.out).mono ?_;rintro e w1 ⟨rfl,⟨m1,rfl⟩⟩)
   | (go_at_call 38;refine(HS.out _ (by repeat (first|exact Below.refl _ _|apply yab))).mono ?_;rintro e w2 ⟨rfl,hb2⟩;have hb3:=(fun(hx:Below w.heap.size w (w.drewN m1))=>yae hx hx.size hb2) (yab (Below.refl _ _) _);have hx2:=HCL.out _ hb3)
   | (go_at_call 29;refine(ybs.calls kf kind x true _ HKF.out).mono ?_;rintro e w3 ⟨rfl,⟨m3,rfl⟩⟩;have hx3:=HCL.out _ (yab hb3 m3)))
  go_region
  all_goals go_wp2_with (first
   | (go_at_call 39;refine(HG.out _ (by repeat (first|exact hb3|apply yab))).mono ?_;rintro e w4 ⟨rfl,⟨m4,rfl⟩⟩)
   | (go_at_call 40;refine(HRN.out _ (by repeat (first|exact hb3|apply yab))).mono ?_;rintro e w5 ⟨v5,v6,rfl,hb5,_⟩))
  all_goals go_ret2
  all_goals exact yby.none HE0.out ((fun(hx:Below w.heap.size w _)=>yae hx hx.size hb5) (by repeat (first|exact hb3|apply yab)))
theorem ym0 (kind:Int) (A:Option Addr) (c:Nat) (b:List Int) (w:World) (h:Kd.C (Kd.int .u8) w A b.length b) (hc:b.length≤c) (hb:Bys b)
  (hRB:ycz kind (b.getD 0 0)→yf9 kind (b.getD 0 0)) (hCO:ycz kind (b.getD 0 0)→yha kind (b.getD 0 0)) :
  Calls Tryz.prog 19 #[.int .i64 kind,.slice A b.length c] w (yby w (ydx kind b).1 (ydx kind b).2):=by
 unfold ydx
 by_cases h1:kind<1∨8<kind
 ·rw[if_pos h1];exact yoo kind A c b w h1
 rw[if_neg h1]
 by_cases hl:65000<b.length
 ·rw[if_pos hl];exact bdec_long kind A c b w h1 hl
 rw[if_neg hl]
 cases hs:yc9 b
 ·rw[if_pos rfl];exact yoc kind A c b w h hc hb h1 hl hs
 rw[if_neg (by decide)]
 have hge:=yiv hs
 by_cases h4:b.length=4
 ·have e:yfs kind (b.take (b.length-4))=([],2):=by unfold yfs;rw[if_pos (by rw[List.length_take];omega)]
  rw[e];exact yqq kind A c b w h hc hb h1 h4 hs
 obtain⟨y,hy⟩:∃ y,y=b.take (b.length-4):=⟨_,rfl⟩
 rw[← hy]
 have hy0:y.length≠0:=by rw[hy,List.length_take];omega
 have hyg:y.getD 0 0=b.getD 0 0:=by
  rw[hy,List.getD_eq_getElem?_getD,List.getD_eq_getElem?_getD,List.getElem?_take_of_lt (by omega)]
 by_cases hf:ycz kind (b.getD 0 0)
 ·rcases hv:vget y 1 with ⟨n,q,e⟩
  by_cases he:e=0∧n≤4096
  ·obtain⟨rfl,hn⟩:=he
   rw[yrf hy0 (by rw[hyg];exact hf) hv hn,hyg]
   exact bdec_rest kind A c b y w h hc hb h1 hl hs h4 hf hy (hRB hf) (hCO hf) n q hv hn
  ·have hb1:=bdec_get kind A c b y w h hc hb h1 hl hs h4 hf hy (by
    rw[hv]
    by_cases h0:e=0
    ·exact .inr (by show 4096<n;exact Nat.lt_of_not_le fun hn=>he ⟨h0,hn⟩)
    ·exact .inl h0)
   rw[hv] at hb1
   have e9:yfs kind y=([],if e≠0 then e else 4):=by
    unfold yfs
    rw[if_neg hy0,if_neg (by rw[hyg];simpa using hf),hv]
    simp only
    by_cases h0:e=0
    ·have hh:¬ e≠0:=fun x=>x h0
     rw[if_neg hh,if_pos (Nat.lt_of_not_le fun hn=>he ⟨h0,hn⟩),if_neg hh]
    ·rw[if_pos h0,if_pos h0]
   rw[e9]
   exact hb1
 ·have e9:yfs kind y=([],120):=by unfold yfs;rw[if_neg hy0,if_pos (by rw[hyg];exact hf)]
  rw[e9]
  exact yqa kind A c b w h hc hb h1 hl hs h4 hf
theorem yli {v:Int} (h:I64 v):yf0 (yds v):=⟨h,(fun x hx=>by cases hx),by simp [yds]⟩
theorem yj6 {s:List Int} (h:Bys s) (hl:s.length≤200):yf0 (ycw s):=⟨show I64 0 from by unfold I64;omega,h,by show s.length≤_;omega⟩
theorem yjy {kind:Int}:yha kind 2:=by
 intro b n hb h c hc
 unfold ybi at h hc
 rw[if_neg (by decide),if_pos rfl] at h hc
 obtain⟨h1,h2,h3⟩:=yf5 h
 rw[h3] at hc
 obtain⟨v,hv,rfl⟩:=List.mem_map.1 hc
 exact yli ((yja hb h1).2.1 v hv)
theorem yl4 (kind:Int):yf9 kind 2:=fun A c b n w h hc hb hl hn=>yn3 kind A c b n w h hc hb hl hn
end Go.Proofs.YteeikgjjgfdjgaaGreat.PK
end
