/-
  Parts of the proof: Xr.
-/
import Derived.Test.YteeikgjjgfdjgaaGreatV32
import Derived.Test.YteeikgjjgfdjgaaGreatV28
set_option maxHeartbeats 4000000
set_option maxRecDepth 100000
section
namespace Go.Proofs.YteeikgjjgfdjgaaGreat.PK
open Go.RowKit Go.Maps YteeikgjjgfdjgaaGreatW.PrintWords YteeikgjjgfdjgaaGreatW.PrintLast YteeikgjjgfdjgaaGreatW.PrintMore
set_option linter.unusedVariables false
set_option linter.unusedSimpArgs false
theorem yoj {kind:Int} {c:Cel} (h:ydu kind c=0) (hk:yd6 kind):c.f2.length≤200:=by
 unfold ydu at h
 rw[if_neg (by unfold yd6 at hk;omega)] at h
 by_cases h0:c.f0=true
 ·rw[if_pos h0] at h
  by_cases h1:c.f1≠0∨0<c.f2.length
  ·rw[if_pos h1] at h;exact absurd h (by decide)
  ·have:¬ 0<c.f2.length:=fun h=>h1 (.inr h)
   omega
 rw[if_neg h0] at h
 by_cases h6:kind≤6
 ·rw[if_pos h6] at h
  by_cases h1:0<c.f2.length
  ·rw[if_pos h1] at h;exact absurd h (by decide)
  ·omega
 rw[if_neg h6] at h
 by_cases h1:c.f1≠0
 ·rw[if_pos h1] at h;exact absurd h (by decide)
 rw[if_neg h1] at h
 by_cases h2:200<c.f2.length
 ·rw[if_pos h2] at h;exact absurd h (by decide)
 ·omega
theorem yo0 {kind:Int} {b:List Int} (hb:Bys b):(ydx kind b).1.length≤4096∧∀ c∈(ydx kind b).1,c.f2.length≤200:=by
 by_cases h:(ydx kind b).2=0
 ·have h1:=(decBlk_ok hb h).1
  obtain⟨hk,_,hc,_⟩:=ym9 (congrArg Prod.snd h1)
  obtain⟨h2,h3⟩:=yhm.1 hc
  exact⟨h2,fun c hc=>yoj (h3 c hc) hk⟩
 ·rw[yl8 h]
  exact⟨by decide,fun c hc=>by cases hc⟩
theorem yby.celB {w:World} {l:List Cel} {n:Int} {e:Ending} {w':World} (hn:n≠0→l=[]) (h:yby w l n e w'):∃ v,e=.returned (.tuple #[v,.int .i64 n])∧Below w.heap.size w w'∧CelB w' w.heap.size v l:=by
 obtain⟨v,h1,h2,h3,h4⟩:=h
 refine⟨v,h1,h2,?_⟩
 by_cases h0:n=0
 ·exact h3 h0
 ·rw[hn h0,h4 h0]
  exact CelB.nil _ _
theorem EntX.stay {w w':World} {base B:Nat} {v:Value} {vs:List Value} {ogs:List (Option Nat)} {es:List (List Int)} (h:EntX w base B v vs ogs es) (hb:∀ k,base≤k→k<w.heap.size→w'.heap[k]?=w.heap[k]?):EntX w' base B v vs ogs es:=by
 refine⟨yey h.row (fun k hk=>hb k (ydp h.row k hk) (yft h.row k hk)),h.len,h.apart,h.low,fun i hi=>?_⟩
 obtain⟨u,og,hu,hog,hB⟩:=h.each i hi
 exact⟨u,og,hu,hog,hB.keep (fun g hg=>hb g (hB.base_le g hg) (hB.lt g hg))⟩
theorem blockdecodes_any (kind:Int) (A:Option Addr) (c:Nat) (b:List Int) (w:World) (hr:Kd.C (Kd.int .u8) w A b.length b) (hc:b.length≤c) (hb:Bys b) (hl:b.length≤140737488351232) :
  Calls Tryz.prog 5 #[.int .i64 kind,.slice A b.length c] w fun e w'=>e=.returned (.bool true)∧Hold w.heap.size w w':=by
 obtain⟨kw,hkw⟩:=(wide_ev b hl).ex
 obtain⟨kn,hkn⟩:=(intact_ev b hl).ex
 obtain⟨hs1,hs2⟩:=yo0 (kind:=kind) hb
 have herr:=fun h=>yl8 (kind:=kind) (b:=b) h
 have hpd:=fun(A:Option Addr) (c:Nat) (w:World) (h:Kd.C (Kd.int .u8) w A b.length b) (hc:b.length≤c)=>(bdec_any kind A c b w h hc hb).mono (fun e w' h=>yby.celB herr h)
 have hrd:=fun(A:Option Addr) (c:Nat) (w:World) (h:Kd.C (Kd.int .u8) w A b.length b) (hc:b.length≤c)=>(yps kind A c b w h hc hb hl).mono (fun e w' h=>yby.celB herr h)
 generalize ydx kind b=r at *
 obtain⟨l,er⟩:=r
 simp only at hs1 hs2 herr hpd hrd
 have hwl:(b++yev 64).length=b.length+64:=by rw[List.length_append,yh7]
 have HWL:=Lib.hid hwl;have HPD:=Lib.hid hpd;have HRD:=Lib.hid hrd;have HKN:=Lib.hid hkn;have HKW:=Lib.hid hkw;have HS2:=Lib.hid hs2;have HR:=Lib.hid hr
 clear hwl hpd hrd hkn hkw hs2 herr hb hr
 obtain⟨wh,hwh⟩:∃ wh,wh=b++yev 64:=⟨_,rfl⟩
 have htk:wh.take b.length=b:=by rw[hwh,List.take_left]
 rw[← hwh] at HKW HKN HWL
 have HTK:=Lib.hid htk
 clear hwh htk
 go_enter Tryz.func5,Tryz.ntmps5
 go_upto_region 4 with (first
  | (go_at_call 9;refine(alive_any _).mono ?_;rintro e w1 ⟨rfl,hb1⟩)
  | (go_at_call 18;refine(yci.calls kw A c b wh _ (Kd.C_below HR.out hb1) hc HKW.out).mono ?_;rintro e w2 ⟨v3,rfl,hR3,hb2⟩;obtain⟨A3,c3,rfl,hc3,hC3⟩:=Kd.R_reads hR3;have hB2:=yae hb1 hb1.size hb2))
 obtain⟨i5,hi5,hz0,hz1,hz2⟩:=info_parts ycj
 have hwl:=HWL.out
 have hcut:=ykd (P:=Tryz.prog) 25 5 .i64 Tryz.underlying25 hi5 A3 wh.length c3 (b.length:Int) (by omega) (by omega) hc3
 rw[Int.toNat_natCast] at hcut
 have hCb:=Kd.C_take (m:=b.length) hC3 (by omega)
 rw[HTK.out] at hCb
 have hcb:b.length≤c3:=by omega
 have HCB:=Lib.hid hCb;have HB2:=Lib.hid hB2;have HC3:=Lib.hid hC3
 clear hwl hi5 hz0 hz1 hz2 hCb hB2 hC3 hR3 hb1 hb2 HKW
 go_upto_region 5 with (go_at_call 19;refine(HPD.out A3 c3 _ HCB.out hcb).mono ?_;rintro e w3 ⟨v4,rfl,hb3,hX3⟩)
 have HB3:=Lib.hid (yae HB2.out HB2.out.size hb3);have HX3:=Lib.hid hX3;have HB23:=Lib.hid hb3
 clear hb3 hX3 HCB HPD hcut
 go_upto_region 6 with (go_at_call 20;refine(HRD.out A c _ (Kd.C_below HR.out HB3.out) hc).mono ?_;rintro e w4 ⟨v6,rfl,hb4,hX4⟩)
 have HB4:=Lib.hid (yae HB3.out HB3.out.size hb4);have HX4:=Lib.hid hX4;have HX34:=Lib.hid (CelB.below HX3.out hb4);have HB24:=Lib.hid (yae HB23.out HB23.out.size hb4);have HSZ:=Lib.hid hb4.size
 obtain⟨ts,hts,hT3⟩:=HX3.out
 have hlow:∀ t∈ts,∀ g,t.og=some g→g<w3.heap.size:=fun t ht g hg=>(hT3.each t ht).lt g hg
 have hT4:=hT3.keep (fun k hk hl=>hb4.block k hl)
 have HT4:=Lib.hid hT4;have HTS:=Lib.hid hts;have HLOW:=Lib.hid hlow
 clear hb4 hX4 hT3 hts hlow hT4 HX3 HRD HB3
 obtain⟨A4,c4,rfl,hc4,hC4⟩:=HX34.out.reads
 obtain⟨A6,c6,rfl,hc6,hC6⟩:=HX4.out.reads
 have HC4:=Lib.hid hC4;have HC6:=Lib.hid hC6
 clear hC4 hC6
 go_upto_region 8 with (go_at_call 14;refine(yoq A4 A6 c4 c6 l _ HC4.out hc4 HC6.out hc6 (by omega) (fun c hc=>Nat.le_trans (HS2.out c hc) (by decide))).mono ?_;rintro e w5 ⟨rfl,hb5⟩)
 have hbx:w2.heap.size≤w5.heap.size:=Nat.le_trans HB24.out.size hb5.size
 have hT5:=HT4.out.keep (fun k hk hl=>hb5.block k hl)
 have hx4:=CelB.below HX4.out hb5
 obtain⟨ts',hts',hT'⟩:=hx4
 have htl:ts.length≤4096:=by rw[← HTS.out,List.length_map] at hs1;exact hs1
 have htl':ts'.length≤4096:=by rw[← hts',List.length_map] at hs1;exact hs1
 have he1:ts.map (fun t=>t.c.f2)=l.map (·.f2):=by rw[← HTS.out,List.map_map];rfl
 have he2:ts'.map (fun t=>t.c.f2)=l.map (·.f2):=by rw[← hts',List.map_map];rfl
 have hcall1:=ymf w2.heap.size w3.heap.size _ ts w5 hT5 HLOW.out hbx htl
 have hcall2:=fun(w6:World) (hb6:Below w5.heap.size w5 w6)=>ymf w3.heap.size w5.heap.size _ ts' w6 (hT'.keep (fun k hk hl=>hb6.block k hl)) (fun t ht g hg=>(hT'.each t ht).lt g hg) (Nat.le_trans HSZ.out (Nat.le_trans hb5.size hb6.size)) htl'
 rw[he1] at hcall1
 rw[he2] at hcall2
 have hes1:(l.map (·.f2)).length≤4096:=by rw[List.length_map];exact hs1
 have hes2:∀ s∈l.map (·.f2),s.length≤200:=fun s hs=>by
  obtain⟨c,hc,rfl⟩:=List.mem_map.1 hs
  exact HS2.out c hc
 have HC1:=Lib.hid hcall1;have HC2:=Lib.hid hcall2;have HB5:=Lib.hid (yae HB4.out HB4.out.size hb5);have HB25:=Lib.hid (yae HB24.out HB24.out.size hb5);have HES:=Lib.hid hes2
 clear hcall1 hcall2 hT5 hT' hts' he1 he2 htl htl' hes2 hbx HT4 HX4 HX34 HTS HLOW HC4 HC6 HS2 HB4 HB24 HSZ hb5
 generalize l.map (·.f2)=es at *
 go_wp2_with (first
  | (go_at_call 22;(with_reducible refine HC1.out.mono ?_);rintro e w6 ⟨y1,rfl,hb6,hE6⟩;have HE6:=Lib.hid hE6;clear hE6)
  | (go_at_call 22;(with_reducible refine(HC2.out _ hb6).mono ?_);rintro e w7 ⟨y2,rfl,hb7,hE7⟩;obtain⟨A7,c7,rfl,hc7,hC7⟩:=hE7.entB.reads;have HE7:=Lib.hid hE7;have HE67:=Lib.hid (HE6.out.below (fun k hk=>hb7.block k hk));have HB57:=Lib.hid (yae hb6 hb6.size hb7);have hW:∀ w',Side w2.heap.size w3.heap.size w7 w'→Kd.C (Kd.slice 5 (Kd.int .u8)) w' A7 es.length es:=(fun w' hs=>by (obtain⟨A',c',e,_,hC⟩:=(hE7.stay (fun k hk hl=>hs.block k hl (.inr hk))).entB.reads;injection e with e1 _ _;rw[e1];exact hC));have HW:=Lib.hid hW;clear hE7 hC7 hW)
  | (go_at_call 21;refine(yn7 w2.heap.size w3.heap.size y1 _ _ es A7 c7 w7 HE67.out HW.out hc7 hes1 HES.out).mono ?_;rintro e w8 ⟨rfl,hS8⟩;have hH8:=(Hold.of_below (yae HB5.out HB5.out.size HB57.out)).trans (hS8.hold.mono HB2.out.size);have hH28:=(Hold.of_below (yae HB25.out HB25.out.size HB57.out)).trans hS8.hold)
  | (go_at_call 23;refine(ya7.calls kn A3 c3 wh A c b true _ (C_hold HC3.out hH28) hc3 (C_hold HR.out hH8) hc HKN.out).mono ?_;rintro e w9 ⟨rfl,hD9⟩))
 go_ret
 exact⟨rfl,hH8.trans (Hold.of_below (hD9.below.mono hH8.size))⟩
end Go.Proofs.YteeikgjjgfdjgaaGreat.PK
end
