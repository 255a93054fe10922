/-
  Parts of the proof: Zb, Zc, Zd, Ze, Zf, Zg, Zh.
-/
import Derived.Test.YteeikgjjgfdjgaaGreatV31
set_option maxHeartbeats 4000000
set_option maxRecDepth 100000
section
namespace Go.Proofs.YteeikgjjgfdjgaaGreat.PK
open Go.RowKit YteeikgjjgfdjgaaGreatW.PrintWords YteeikgjjgfdjgaaGreatW.PrintLast YteeikgjjgfdjgaaGreatW.PrintMore
set_option linter.unusedVariables false
set_option linter.unusedSimpArgs false
theorem ylw {b la:List Int} (hb:Bys b) {p:Nat} {wh:Bool} (h:(ycc b p la wh).2.2=0):(ycc b p la wh).2.1≤b.length∧(ycc b p la wh).1.length≤200:=by
 have h2:=fun h=>(ycp hb (p:=(vget b p).2.1) h).1
 unfold ycc at h ⊢
 by_cases c1:(vget b p).2.2=0
 rotate_left
 ·rw[if_pos c1] at h;exact absurd h c1
 rw[if_neg (by simpa using c1)] at h ⊢
 by_cases c2:(vget b (vget b p).2.1).2.2=0
 rotate_left
 ·rw[if_pos c2] at h;exact absurd h c2
 rw[if_neg (by simpa using c2)] at h ⊢
 have h3:=h2 c2
 split at h
 ·exact absurd h (by decide)
 split at h
 ·exact absurd h (by decide)
 split at h
 ·exact absurd h (by decide)
 split at h
 ·exact absurd h (by decide)
 rename_i c3 c4 c5 c6
 rw[if_neg c3,if_neg c4,if_neg c5,if_neg c6]
 refine⟨by simp only;omega,?_⟩
 simp only[List.length_append,List.length_take]
 omega
theorem EntX.push {W w1:World} {base:Nat} {v v1 u:Value} {og:Option Nat} {s:List Int} {vs:List Value} {ogs:List (Option Nat)} {es:List (List Int)} {B:Nat} (h:EntX W base B v vs ogs es) (hBW:B≤W.heap.size) (hu:Byt W base og u s) (hn:∀ g,og=some g→∀ i:Nat,ogs[i]?≠some (some g))
  (hown:w1.ownsRow base 25 1 v1 (es.length+1) (vs++[u])) (hg:W.grownBy w1 v.ownBlock):EntX w1 base w1.heap.size v1 (vs++[u]) (ogs++[og]) (es++[s]):=by
 have hvl:vs.length=es.length:=by have:=h.row.1;omega
 have hkeep:∀ (og':Option Nat) (u':Value) (x:List Int),Byt W base og' u' x→Byt w1 base og' u' x:=fun og' u' x hB=>hB.keep (fun g hg'=>hg.block g (hB.lt g hg') (fun e=>by
  obtain⟨cells,m,h1⟩:=hB.typed g hg'
  obtain⟨cells',h2⟩:=ydt h.row g e.symm
  rw[h1] at h2
  injection h2 with h2
  injection h2 with _ h2 _
  exact absurd h2 (by decide)))
 refine⟨by rw[List.length_append];exact hown,by rw[List.length_append,List.length_append,h.len];rfl,fun i j g hij hi hj=>?_,fun i g hi=>?_,fun i hi=>?_⟩
 ·by_cases hj2:j<ogs.length
  ·rw[List.getElem?_append_left hj2] at hj
   rw[List.getElem?_append_left (by omega)] at hi
   exact h.apart i j g hij hi hj
  ·rw[List.getElem?_append_right (by omega)] at hj
   obtain⟨hj3,hj4⟩:=List.getElem?_eq_some_iff.1 hj
   have hj5:j-ogs.length=0:=by simpa using hj3
   rw[List.getElem?_append_left (by omega)] at hi
   rw[hj5] at hj
   have e:og=some g:=by simpa using hj
   exact hn g e i hi
 ·by_cases hj2:i<ogs.length
  ·rw[List.getElem?_append_left hj2] at hi
   exact Nat.lt_of_lt_of_le (Nat.lt_of_lt_of_le (h.low i g hi) hBW) hg.size
  ·rw[List.getElem?_append_right (by omega)] at hi
   obtain⟨hj3,hj4⟩:=List.getElem?_eq_some_iff.1 hi
   have hj5:i-ogs.length=0:=by simpa using hj3
   rw[hj5] at hi
   have e:og=some g:=by simpa using hi
   exact Nat.lt_of_lt_of_le (hu.lt g e) hg.size
 ·by_cases hi2:i<es.length
  ·obtain⟨u',og',h1,h2,h3⟩:=h.each i hi2
   refine⟨u',og',by rw[List.getElem?_append_left (by omega)];exact h1,by rw[List.getElem?_append_left (by rw[h.len];exact hi2)];exact h2,?_⟩
   rw[List.getElem_append_left hi2]
   exact hkeep _ _ _ h3
  ·have hi3:i=es.length:=by rw[List.length_append,List.length_singleton] at hi;omega
   subst hi3
   refine⟨u,og,by rw[← hvl];simp,by rw[← h.len];simp,?_⟩
   rw[List.getElem_append_right (Nat.le_refl _)]
   simpa using hkeep _ _ _ hu
theorem yra (A:Option Addr) (c:Nat) (b:List Int) (w:World) (h:Kd.C (Kd.int .u8) w A b.length b) (hc:b.length≤c) (hb:Bys b) (hl:b.length≤65000) :
  Calls Tryz.prog 71 #[.slice A b.length c] w (yke w (ydr b).1 (ydr b).2):=by
 have hg0:=yfn h hc hb (by omega) (Nat.zero_le _) w (Below.refl _ _)
 have hle0:=fun h=>ycp hb (p:=0) h
 have htx:=fun(p:Nat) (hp:p≤b.length) (LA:Option Addr) (lc:Nat) (la:List Int) (w2:World) (hb2:Below w.heap.size w w2) (hL:Kd.C (Kd.int .u8) w2 LA la.length la) (hlc:la.length≤lc) (hla:la.length≤200) =>
  text_part A c b p LA lc la w2 (Kd.C_below h hb2) hc hb hl hp hL hlc hla
 have hty:=fun(p:Nat) (hp:p≤b.length) (LA:Option Addr) (lc:Nat) (la:List Int) (w2:World) (hb2:Below w.heap.size w w2) (hL:Kd.C (Kd.int .u8) w2 LA la.length la) (hlc:la.length≤lc) (hla:la.length≤200) =>
  yqk A c b p LA lc la w2 (Kd.C_below h hb2) hc hb hl hp hL hlc hla
 have hpl:=fun(p:Nat) (la:List Int) (wh:Bool)=>@ylw b la hb p wh
 unfold ydr
 rw[show(((0:Nat):Int))=0 from rfl] at hg0
 have hlt:=fun h=>ydz (p:=0) hb h
 generalize hv0:vget b 0=r0 at *
 obtain⟨n,q,e0⟩:=r0
 simp only at hg0 hle0 hlt ⊢
 by_cases he:e0=0
 rotate_left
 ·rw[if_pos he]
  have heb:(e0 == 0)=false:=by simpa using he
  have HG:=Lib.hid hg0
  clear h hb hg0 hle0 hlt hv0 htx hty hpl
  go_enter Tryz.func71,Tryz.ntmps71
  go_wp2_with (go_at_call 39;refine(HG.out).mono ?_;rintro e w1 ⟨rfl,⟨m1,rfl⟩⟩)
  go_ret2
  exact⟨_,rfl,yab (Below.refl _ _) _,EntB.nil _ _⟩
 subst he
 rw[if_neg (by decide)]
 have hle:=(hle0 rfl).1
 by_cases hn:4096<n
 ·rw[if_pos hn]
  have hi:(4096:Int)<(n:Int):=by omega
  have HG:=Lib.hid hg0
  clear h hb hg0 hle0 hlt hv0 htx hty hpl
  go_enter Tryz.func71,Tryz.ntmps71
  go_wp2_with (go_at_call 39;refine(HG.out).mono ?_;rintro e w1 ⟨rfl,⟨m1,rfl⟩⟩)
  go_ret2
  exact⟨_,rfl,yab (Below.refl _ _) _,EntB.nil _ _⟩
 rw[if_neg hn]
 have hi:decide ((4096:Int)<(n:Int))=false:=by simp;omega
 have hi3:n≤4096:=by omega
 obtain⟨X,hX⟩:∃ X,yc6 b n 0 q [] []=X:=⟨_,rfl⟩
 rw[hX]
 generalize hRR:(if X.2.2≠0 then (([]:List (List Int)),X.2.2) else if X.2.1<b.length then ([],3) else (X.1,0))=RR
 have HRR:=Lib.hid hRR;have HX:=Lib.hid hX;have HG:=Lib.hid hg0;have HTX:=Lib.hid htx;have HTY:=Lib.hid hty;have HPL:=Lib.hid hpl
 clear h hb hg0 hle0 hlt hv0 htx hty hpl hX hRR
 go_enter Tryz.func71,Tryz.ntmps71
 go_wp2_with (go_at_call 39;refine(HG.out).mono ?_;rintro e w1 ⟨rfl,⟨m1,rfl⟩⟩)
 go_loopw [5,6,7,8,9,24] (fun v5 _ v7 v8 _ vi wq=>∃ (i p:Nat) (la:List Int) (A8:Option Addr) (c8:Nat) (vs:List Value) (ogs:List (Option Nat)) (out:List (List Int)) (A7:Option Addr) (c7:Nat),i≤n∧vi=.int .u64 i∧v5=.int .i64 p∧p≤b.length∧v8=.slice A8 la.length c8∧la.length≤c8∧la.length≤200∧out.length=i∧v7=.slice A7 i c7∧RowKit.Hid (yc6 b (n-i) i p la out=X)∧RowKit.Hid (Kd.C (Kd.int .u8) wq A8 la.length la)∧RowKit.Hid (EntX wq w.heap.size wq.heap.size (.slice A7 i c7) vs ogs out)∧RowKit.Hid (Below w.heap.size w wq)) (fun _ _ _ _ _ vi _=>n-(intOf vi).toNat)
 case atStart=>exact⟨0,q,[],none,0,[],[],[],none,0,Nat.zero_le _,rfl,rfl,hle,rfl,Nat.le_refl _,by decide,rfl,rfl,HX,Lib.hid (Kd.C_nil _ _),Lib.hid ⟨yho _ _ _ _,rfl,fun i j g _ h=>by simp at h,fun i g h=>by simp at h,fun i h=>absurd h (by simp)⟩,Lib.hid (yab (Below.refl _ _) _)⟩
 case round =>
  obtain⟨i,p,la,A8,c8,vs,ogs,out,A7,c7,hi9,rfl,rfl,hp,rfl,hc8,hla,hol,rfl,hXi,HC8,HEN,HBR⟩:=hrel
  by_cases hlt:i<n
  ·obtain⟨m,hm⟩:∃ m,n-i=m+1:=⟨n-i-1,by omega⟩
   have hm2:n-(i+1)=m:=by omega
   have hX1:=hXi.out
   rw[hm] at hX1
   unfold yc6 at hX1
   by_cases h16:i%16=0
   ·rw[decide_eq_true h16] at hX1
    have hr1:(i:Int)%16=0:=by omega
    have hr2:Int.tmod (i:Int) 16=0:=by rw[Int.tmod_eq_emod_of_nonneg (by omega)];exact hr1
    have ht:=HTY.out p hp A8 c8 la
    have hpp:=HPL.out p la true
    generalize ycc b p la true=r at *
    obtain⟨s,p2,e2⟩:=r
    simp only at ht hpp hX1
    have HT:=Lib.hid ht
    by_cases he2:e2=0
    ·subst he2
     rw[if_neg (by decide)] at hX1
     obtain⟨hp2,hs2⟩:=hpp rfl
     obtain⟨i0,hi0,hz0,hz1,hz2⟩:=info_parts ygm
     have hvl:vs.length=i:=by have:=HEN.out.row.1;omega
     have HX1:=Lib.hid hX1;have HM2:=Lib.hid hm2;have HLT:=Lib.hid hlt;have HOL:=Lib.hid hol;have HP2:=Lib.hid hp2;have HS2:=Lib.hid hs2
     clear ht hpp hX1 hXi hm hm2 hlt hp2 hs2
     go_upto_region 14 with (go_at_call 112;refine(HT.out _ HBR.out HC8.out hc8 hla).mono ?_;rintro e w5 ⟨A5,c5,og,rfl,hb5,hB5⟩;simp only at hB5)
     have hen5:=HEN.out.below (fun k hk=>hb5.block k hk)
     have hby:=(hB5 trivial).lower HBR.out.size
     have hfr:∀ g,og=some g→∀ j:Nat,ogs[j]?≠some (some g):=fun g hg j hj=>by
      have h1:=HEN.out.low j g hj
      have h2:=(hB5 trivial).base_le g hg
      omega
     have hb6:=yae HBR.out HBR.out.size hb5
     obtain⟨A5',c5',he5,hc5,hC5⟩:=hby.reads
     injection he5 with he51 he52 he53
     subst he51;subst he53
     skip
     have HE5:=Lib.hid hen5;have HBY:=Lib.hid hby;have HFR:=Lib.hid hfr;have HB6:=Lib.hid hb6;have HC5:=Lib.hid hC5;have HHC:=Lib.hid hc5
     have hrow5:w5.ownsRow w.heap.size 25 1 (.slice A7 i c7) i vs:=by have:=HE5.out.row;rwa [hol] at this
     have HROW:=Lib.hid hrow5;have HSZ5:=Lib.hid hb5.size
     clear hen5 hby hfr hb6 hC5 hb5 hB5 hc5 hrow5
     go_wp2_with (at_builtin;refine wpList_append_own _ rfl _ _ 46 rfl w.heap.size 25 i0 (.slice none 0 0) 1 24 Tryz.underlying46 hi0 hz0 hz1 hz2 rfl (by decide) _ _ _ rfl (yf8 HROW.out _) ⟨w5.heap.size,0,none⟩ 1 1 [.slice A5 s.length c5] rfl (by simp) (cell_one_new _ _ _) (by simp [Value.oneCell']) (by unfold maxLen;omega) (by omega) (Nat.le_trans HB6.out.size (by simp)) ?_;intro v7 w7 hown7 hgrow7 hnil7)
     obtain⟨A9,c9,rfl⟩:=yh3 hown7
     have hbal:=yaj (Below.refl w5.heap.size w5) (.cells #[.slice A5 s.length c5] 25)
     have hE7:=EntX.push (og:=og) (s:=s) (HE5.out.below (fun k hk=>hbal.block k hk)) (Nat.le_trans HSZ5.out hbal.size) (HBY.out.keep (fun g hg=>hbal.block g (HBY.out.lt g hg))) HFR.out (by rw[hol];exact hown7) hgrow7
     have hb7:Below w.heap.size w _:=(yaj HB6.out (.cells #[.slice A5 s.length c5] 25)).grown hgrow7 (by simp;have:=HB6.out.size;omega) (fun k hk=>ydp HROW.out k hk)
     have hC7:Kd.C (Kd.int .u8) w7 A5 s.length s:=by
      obtain⟨u',og',h1,_,h3⟩:=hE7.each out.length (by simp)
      rw[hol,← hvl] at h1
      have hu:(vs++[Value.slice A5 s.length c5])[vs.length]?=some (.slice A5 s.length c5):=by simp
      rw[hu] at h1
      injection h1 with h1
      subst h1
      rw[List.getElem_append_right (Nat.le_refl _)] at h3
      simp only[Nat.sub_self,List.getElem_cons_zero] at h3
      obtain⟨A',c',e,_,hC⟩:=h3.reads
      injection e with e1 _ _
      rw[e1]
      exact hC
     have HE7:=Lib.hid hE7;have HB7:=Lib.hid hb7;have HC7:=Lib.hid hC7
     go_roundw
     case rel=>exact⟨i+1,p2,s,A5,c5,vs++[.slice A5 s.length c5],ogs++[og],out++[s],A9,c9,HLT.out,by go_num,rfl,HP2.out,rfl,HHC.out,HS2.out,by rw[List.length_append,HOL.out];rfl,rfl,Lib.hid (by rw[HM2.out];exact HX1.out),HC7,HE7,HB7⟩
     case measure=>have:=HLT.out;simp [intOf];omega
    ·rw[if_pos he2] at hX1
     have heb:(e2 == 0)=false:=by simpa using he2
     have HX1:=Lib.hid hX1;have HE2:=Lib.hid he2
     clear ht hpp hX1 hXi hm hm2
     go_wp2_with (go_at_call 112;refine(HT.out _ HBR.out HC8.out hc8 hla).mono ?_;rintro e w5 ⟨A5,c5,og,rfl,hb5,_⟩)
     go_ret2
     have hrr:=HRR.out
     rw[← HX1.out,if_pos HE2.out] at hrr
     subst hrr
     exact⟨_,rfl,yae HBR.out HBR.out.size hb5,EntB.nil _ _⟩
   ·rw[decide_eq_false h16] at hX1
    have hr1:¬ (i:Int)%16=0:=by omega
    have hr2:¬ Int.tmod (i:Int) 16=0:=by rw[Int.tmod_eq_emod_of_nonneg (by omega)];exact hr1
    have hr3:((i:Int)%16 == 0)=false:=by simpa using hr1
    have hr4:(Int.tmod (i:Int) 16 == 0)=false:=by simpa using hr2
    have ht:=HTX.out p hp A8 c8 la
    have hpp:=HPL.out p la false
    generalize ycc b p la false=r at *
    obtain⟨s,p2,e2⟩:=r
    simp only at ht hpp hX1
    have HT:=Lib.hid ht
    by_cases he2:e2=0
    ·subst he2
     rw[if_neg (by decide)] at hX1
     obtain⟨hp2,hs2⟩:=hpp rfl
     obtain⟨i0,hi0,hz0,hz1,hz2⟩:=info_parts ygm
     have hvl:vs.length=i:=by have:=HEN.out.row.1;omega
     have HX1:=Lib.hid hX1;have HM2:=Lib.hid hm2;have HLT:=Lib.hid hlt;have HOL:=Lib.hid hol;have HP2:=Lib.hid hp2;have HS2:=Lib.hid hs2
     clear ht hpp hX1 hXi hm hm2 hlt hp2 hs2
     go_upto_region 14 with (go_at_call 112;refine(HT.out _ HBR.out HC8.out hc8 hla).mono ?_;rintro e w5 ⟨A5,c5,og,rfl,hb5,hB5⟩;simp only at hB5)
     have hen5:=HEN.out.below (fun k hk=>hb5.block k hk)
     have hby:=(hB5 trivial).lower HBR.out.size
     have hfr:∀ g,og=some g→∀ j:Nat,ogs[j]?≠some (some g):=fun g hg j hj=>by
      have h1:=HEN.out.low j g hj
      have h2:=(hB5 trivial).base_le g hg
      omega
     have hb6:=yae HBR.out HBR.out.size hb5
     obtain⟨A5',c5',he5,hc5,hC5⟩:=hby.reads
     injection he5 with he51 he52 he53
     subst he51;subst he53
     skip
     have HE5:=Lib.hid hen5;have HBY:=Lib.hid hby;have HFR:=Lib.hid hfr;have HB6:=Lib.hid hb6;have HC5:=Lib.hid hC5;have HHC:=Lib.hid hc5
     have hrow5:w5.ownsRow w.heap.size 25 1 (.slice A7 i c7) i vs:=by have:=HE5.out.row;rwa [hol] at this
     have HROW:=Lib.hid hrow5;have HSZ5:=Lib.hid hb5.size
     clear hen5 hby hfr hb6 hC5 hb5 hB5 hc5 hrow5
     go_wp2_with (at_builtin;refine wpList_append_own _ rfl _ _ 46 rfl w.heap.size 25 i0 (.slice none 0 0) 1 24 Tryz.underlying46 hi0 hz0 hz1 hz2 rfl (by decide) _ _ _ rfl (yf8 HROW.out _) ⟨w5.heap.size,0,none⟩ 1 1 [.slice A5 s.length c5] rfl (by simp) (cell_one_new _ _ _) (by simp [Value.oneCell']) (by unfold maxLen;omega) (by omega) (Nat.le_trans HB6.out.size (by simp)) ?_;intro v7 w7 hown7 hgrow7 hnil7)
     obtain⟨A9,c9,rfl⟩:=yh3 hown7
     have hbal:=yaj (Below.refl w5.heap.size w5) (.cells #[.slice A5 s.length c5] 25)
     have hE7:=EntX.push (og:=og) (s:=s) (HE5.out.below (fun k hk=>hbal.block k hk)) (Nat.le_trans HSZ5.out hbal.size) (HBY.out.keep (fun g hg=>hbal.block g (HBY.out.lt g hg))) HFR.out (by rw[hol];exact hown7) hgrow7
     have hb7:Below w.heap.size w _:=(yaj HB6.out (.cells #[.slice A5 s.length c5] 25)).grown hgrow7 (by simp;have:=HB6.out.size;omega) (fun k hk=>ydp HROW.out k hk)
     have hC7:Kd.C (Kd.int .u8) w7 A5 s.length s:=by
      obtain⟨u',og',h1,_,h3⟩:=hE7.each out.length (by simp)
      rw[hol,← hvl] at h1
      have hu:(vs++[Value.slice A5 s.length c5])[vs.length]?=some (.slice A5 s.length c5):=by simp
      rw[hu] at h1
      injection h1 with h1
      subst h1
      rw[List.getElem_append_right (Nat.le_refl _)] at h3
      simp only[Nat.sub_self,List.getElem_cons_zero] at h3
      obtain⟨A',c',e,_,hC⟩:=h3.reads
      injection e with e1 _ _
      rw[e1]
      exact hC
     have HE7:=Lib.hid hE7;have HB7:=Lib.hid hb7;have HC7:=Lib.hid hC7
     go_roundw
     case rel=>exact⟨i+1,p2,s,A5,c5,vs++[.slice A5 s.length c5],ogs++[og],out++[s],A9,c9,HLT.out,by go_num,rfl,HP2.out,rfl,HHC.out,HS2.out,by rw[List.length_append,HOL.out];rfl,rfl,Lib.hid (by rw[HM2.out];exact HX1.out),HC7,HE7,HB7⟩
     case measure=>have:=HLT.out;simp [intOf];omega
    ·rw[if_pos he2] at hX1
     have heb:(e2 == 0)=false:=by simpa using he2
     have HX1:=Lib.hid hX1;have HE2:=Lib.hid he2
     clear ht hpp hX1 hXi hm hm2
     go_wp2_with (go_at_call 112;refine(HT.out _ HBR.out HC8.out hc8 hla).mono ?_;rintro e w5 ⟨A5,c5,og,rfl,hb5,_⟩)
     go_ret2
     have hrr:=HRR.out
     rw[← HX1.out,if_pos HE2.out] at hrr
     subst hrr
     exact⟨_,rfl,yae HBR.out HBR.out.size hb5,EntB.nil _ _⟩
  ·obtain rfl:i=n:=by omega
   have hX1:=hXi.out
   rw[Nat.sub_self,yc6] at hX1
   subst hX1
   have hrr:=HRR.out
   simp only at hrr
   rw[if_neg (by decide)] at hrr
   by_cases hpb:p<b.length
   ·rw[if_pos hpb] at hrr
    have hpi:(p:Int)<(b.length:Int):=by omega
    subst hrr
    clear hXi HRR HX
    go_wp2
    go_ret2
    exact⟨_,rfl,HBR.out,EntB.nil _ _⟩
   ·rw[if_neg hpb] at hrr
    have hpi:decide ((p:Int)<(b.length:Int))=false:=by simp;omega
    have hpn:b.length≤p:=by omega
    subst hrr
    clear hXi HRR HX
    go_wp2
    go_ret2
    exact⟨_,rfl,HBR.out,HEN.out.entB⟩
theorem ylt {b:List Int} (hb:Bys b):(ydr b).1.length≤4096:=by
 by_cases h:(ydr b).2=0
 ·exact(yjp hb h).2.2
 ·rw[yq8 h];simp
theorem yl5 {kind:Int}:yha kind 5:=by
 intro b n hb h c hc
 unfold ybi at h hc
 rw[if_neg (by decide),if_neg (by decide),if_neg (by decide),if_neg (by decide)] at h hc
 obtain⟨h1,h2,h3⟩:=yf5 h
 rw[h3] at hc
 obtain⟨s,hs,rfl⟩:=List.mem_map.1 hc
 exact yj6 (yrh hb s hs) ((yjp hb h1).2.1 s hs)
theorem yoi (kind:Int):yf9 kind 5:=by
 intro A c b n w h hc hb hl hn
 have hd:=yra A c b w h hc hb hl
 have hlen:=ylt hb
 have hcd:ybi kind 5 b n=ybv ((ydr b).1.map ycw) (ydr b).2 n:=by unfold ybi;rw[if_neg (by decide),if_neg (by decide),if_neg (by decide),if_neg (by decide)]
 rw[hcd]
 clear hcd
 generalize ydr b=r at *
 obtain⟨es,er⟩:=r
 simp only at hd hlen ⊢
 have hf:=fun(w1:World) (v:Value) (h1:Below w.heap.size w w1) (h2:EntB w1 w.heap.size v es)=>ym6 er h1 h2 hlen
 generalize es.map ycw=cs at *
 have HD:=Lib.hid hd;have HF:=Lib.hid hf
 clear h hb hd hf
 by_cases he:er=0
 ·subst he
  by_cases hm:cs.length=n
  ·have hX:ybv cs 0 n=(cs,0):=yeu cs n hm
   rw[hX]
   subst hm
   clear hX
   go_enter Tryz.func41,Tryz.ntmps41
   go_wp2_with (first
    | (go_at_call 71;refine HD.out.mono ?_;rintro e w1 ⟨v1,rfl,hb1,hE1⟩)
    | (go_at_call 69;refine(HF.out _ _ hb1 hE1).mono ?_;rintro e w2 ⟨A2,c2,rfl,hb2,hC2⟩;have HC2:=Lib.hid hC2;clear hC2 hE1))
   go_ret2
   exact⟨_,rfl,hb2,fun _=>HC2.out⟩
  ·have hX:ybv cs 0 n=([],5):=by unfold ybv;rw[if_neg (by decide),if_pos hm]
   rw[hX]
   have hmi:¬ (cs.length:Int)=(n:Int):=by omega
   have hmb:((cs.length:Int) == (n:Int))=false:=by simpa using hmi
   clear hX
   go_enter Tryz.func41,Tryz.ntmps41
   go_wp2_with (first
    | (go_at_call 71;refine HD.out.mono ?_;rintro e w1 ⟨v1,rfl,hb1,hE1⟩)
    | (go_at_call 69;refine(HF.out _ _ hb1 hE1).mono ?_;rintro e w2 ⟨A2,c2,rfl,hb2,hC2⟩;have HC2:=Lib.hid hC2;clear hC2 hE1))
   go_ret2
   exact⟨_,rfl,hb2,fun h=>absurd h (by decide)⟩
 ·have hX:ybv cs er n=([],er):=by unfold ybv;rw[if_pos he]
  rw[hX]
  have heb:(er == 0)=false:=by simpa using he
  clear hX
  go_enter Tryz.func41,Tryz.ntmps41
  go_wp2_with (first
   | (go_at_call 71;refine HD.out.mono ?_;rintro e w1 ⟨v1,rfl,hb1,hE1⟩)
   | (go_at_call 69;refine(HF.out _ _ hb1 hE1).mono ?_;rintro e w2 ⟨A2,c2,rfl,hb2,hC2⟩;have HC2:=Lib.hid hC2;clear hC2 hE1))
  go_ret2
  exact⟨_,rfl,hb2,fun h=>absurd h he⟩
theorem reads_any {kind codec:Int} (hk:yd6 kind) (hf:ycz kind codec):yf9 kind codec:=by
 rcases hf with rfl|⟨_,rfl|rfl⟩|⟨_,rfl|rfl⟩
 ·exact yp7 hk
 ·exact yl4 kind
 ·exact yop kind
 ·exact yrj kind
 ·exact yoi kind
theorem yj5 {kind codec:Int} (hf:ycz kind codec):yha kind codec:=by
 rcases hf with rfl|⟨_,rfl|rfl⟩|⟨_,rfl|rfl⟩
 ·exact ymk
 ·exact yjy
 ·exact yl0
 ·exact ynx
 ·exact yl5
theorem bdec_any (kind:Int) (A:Option Addr) (c:Nat) (b:List Int) (w:World) (h:Kd.C (Kd.int .u8) w A b.length b) (hc:b.length≤c) (hb:Bys b) :
  Calls Tryz.prog 19 #[.int .i64 kind,.slice A b.length c] w (yby w (ydx kind b).1 (ydx kind b).2):=by
 by_cases hk:yd6 kind
 ·exact ym0 kind A c b w h hc hb (fun hf=>reads_any hk hf) (fun hf=>yj5 hf)
 ·have h1:kind<1∨8<kind:=by unfold yd6 at hk;omega
  have hd:ydx kind b=([],1):=by unfold ydx;rw[if_pos h1]
  have h2:=yoo kind A c b w h1
  rw[hd]
  exact h2
theorem yl9 (A:Option Addr) (c:Nat) (b:List Int) (p:Nat) (LA:Option Addr) (lc:Nat) (la:List Int) (wh:Bool) (w:World) (h:Kd.C (Kd.int .u8) w A b.length b) (hc:b.length≤c) (hb:Bys b) (hl:b.length≤65000) (hp:p≤b.length)
  (hL:Kd.C (Kd.int .u8) w LA la.length la) (hlc:la.length≤lc) (hla:la.length≤200) :
  Calls Tryz.prog 121 #[.slice A b.length c,.int .i64 p,.slice LA la.length lc,.bool wh] w (yd5 w (ycc b p la wh)):=by
 obtain⟨k,hk⟩:=(yro hb hl hla p hp wh).ex
 refine(ya2.calls k A c b p LA lc la wh _ _ _ w h hc hL hlc hk).mono ?_
 rintro e w' ⟨v,rfl,hR,hb'⟩
 obtain⟨A',c',rfl,_,_⟩:=Kd.R_reads hR
 exact⟨A',c',_,rfl,hb',fun _=>Byt.of_own (Kd.own_of_R hR)⟩
theorem yp3 (A:Option Addr) (c:Nat) (b:List Int) (w:World) (h:Kd.C (Kd.int .u8) w A b.length b) (hc:b.length≤c) (hb:Bys b) (hl:b.length≤65000) :
  Calls Tryz.prog 79 #[.slice A b.length c] w (yke w (ydr b).1 (ydr b).2):=by
 obtain⟨kg,hkg⟩:=(yfe b 0 hb (by omega) (Nat.zero_le _)).ex
 have hg0:=yac.calls kg A c b _ _ _ _ w h hc hkg
 clear hkg
 have hle0:=fun h=>ycp hb (p:=0) h
 have htx:=fun(p:Nat) (hp:p≤b.length) (LA:Option Addr) (lc:Nat) (la:List Int) (w2:World) (hb2:Below w.heap.size w w2) (hL:Kd.C (Kd.int .u8) w2 LA la.length la) (hlc:la.length≤lc) (hla:la.length≤200) =>
  yl9 A c b p LA lc la false w2 (Kd.C_below h hb2) hc hb hl hp hL hlc hla
 have hty:=fun(p:Nat) (hp:p≤b.length) (LA:Option Addr) (lc:Nat) (la:List Int) (w2:World) (hb2:Below w.heap.size w w2) (hL:Kd.C (Kd.int .u8) w2 LA la.length la) (hlc:la.length≤lc) (hla:la.length≤200) =>
  yl9 A c b p LA lc la true w2 (Kd.C_below h hb2) hc hb hl hp hL hlc hla
 have hpl:=fun(p:Nat) (la:List Int) (wh:Bool)=>@ylw b la hb p wh
 unfold ydr
 rw[show(((0:Nat):Int))=0 from rfl] at hg0
 have hlt:=fun h=>ydz (p:=0) hb h
 generalize hv0:vget b 0=r0 at *
 obtain⟨n,q,e0⟩:=r0
 simp only at hg0 hle0 hlt ⊢
 by_cases he:e0=0
 rotate_left
 ·rw[if_pos he]
  have heb:(e0 == 0)=false:=by simpa using he
  have HG:=Lib.hid hg0
  clear h hb hg0 hle0 hlt hv0 htx hty hpl
  go_enter Tryz.func79,Tryz.ntmps79
  go_wp2_with (go_at_call 44;refine(HG.out).mono ?_;rintro e w1 ⟨rfl,⟨m1,rfl⟩⟩)
  go_ret2
  exact⟨_,rfl,yab (Below.refl _ _) _,EntB.nil _ _⟩
 subst he
 rw[if_neg (by decide)]
 have hle:=(hle0 rfl).1
 by_cases hn:4096<n
 ·rw[if_pos hn]
  have hi:(4096:Int)<(n:Int):=by omega
  have HG:=Lib.hid hg0
  clear h hb hg0 hle0 hlt hv0 htx hty hpl
  go_enter Tryz.func79,Tryz.ntmps79
  go_wp2_with (go_at_call 44;refine(HG.out).mono ?_;rintro e w1 ⟨rfl,⟨m1,rfl⟩⟩)
  go_ret2
  exact⟨_,rfl,yab (Below.refl _ _) _,EntB.nil _ _⟩
 rw[if_neg hn]
 have hi:decide ((4096:Int)<(n:Int))=false:=by simp;omega
 have hi3:n≤4096:=by omega
 obtain⟨X,hX⟩:∃ X,yc6 b n 0 q [] []=X:=⟨_,rfl⟩
 rw[hX]
 generalize hRR:(if X.2.2≠0 then (([]:List (List Int)),X.2.2) else if X.2.1<b.length then ([],3) else (X.1,0))=RR
 have HRR:=Lib.hid hRR;have HX:=Lib.hid hX;have HG:=Lib.hid hg0;have HTX:=Lib.hid htx;have HTY:=Lib.hid hty;have HPL:=Lib.hid hpl
 clear h hb hg0 hle0 hlt hv0 htx hty hpl hX hRR
 go_enter Tryz.func79,Tryz.ntmps79
 go_upto_region 8 with (go_at_call 44;refine(HG.out).mono ?_;rintro e w1 ⟨rfl,⟨m1,rfl⟩⟩)
 have hb1:=yab (Below.refl w.heap.size w) m1
 have hb3:=yaj (yaj hb1 (.cells #[] 25)) (.cells #[] 5)
 have ho3:=yf8 (World.ownsRow_lit (base:=w.heap.size) (e:=25) (size:=1) (w.drewN m1) #[] 0 hb1.size (by decide) (by simp)) (.cells #[] 5)
 obtain⟨A8,c8,he8,hc8,hC8⟩:=Kd.R_reads (yje (Kd.int .u8) ((w.drewN m1).alloc (.cells #[] 25)) 5 w.heap.size (by simp))
 injection he8 with he81 he82 he83
 subst he81;subst he83
 rw[show((w.drewN m1).alloc (.cells #[] 25)).heap.size=w.heap.size+1 by simp] at hC8
 clear he82
 have HB3:=Lib.hid hb3;have HO3:=Lib.hid ho3;have HC8:=Lib.hid hC8
 clear hb1 hb3 ho3 hC8
 generalize ((w.drewN m1).alloc (.cells #[] 25)).alloc (.cells #[] 5)=w3 at *
 go_wp2
 go_loopw [5,7,8,9,10,11,12] (fun v5 v7 v8 vi _ _ _ wq=>∃ (i p:Nat) (la:List Int) (A8:Option Addr) (c8:Nat) (vs:List Value) (ogs:List (Option Nat)) (out:List (List Int)) (A7:Option Addr) (c7:Nat),i≤n∧vi=.int .u64 i∧v5=.int .i64 p∧p≤b.length∧v8=.slice A8 la.length c8∧la.length≤c8∧la.length≤200∧out.length=i∧v7=.slice A7 i c7∧RowKit.Hid (yc6 b (n-i) i p la out=X)∧RowKit.Hid (Kd.C (Kd.int .u8) wq A8 la.length la)∧RowKit.Hid (EntX wq w.heap.size wq.heap.size (.slice A7 i c7) vs ogs out)∧RowKit.Hid (Below w.heap.size w wq)) (fun _ _ _ vi _ _ _ _=>n-(intOf vi).toNat)
 case atStart=>exact⟨0,q,[],_,0,[],[],[],_,0,Nat.zero_le _,rfl,rfl,hle,rfl,Nat.le_refl _,by decide,rfl,rfl,HX,HC8,Lib.hid ⟨HO3.out,rfl,fun i j g _ h=>by simp at h,fun i g h=>by simp at h,fun i h=>absurd h (by simp)⟩,HB3⟩
 case round =>
  obtain⟨i,p,la,A8,c8,vs,ogs,out,A7,c7,hi9,rfl,rfl,hp,rfl,hc8,hla,hol,rfl,hXi,HC8,HEN,HBR⟩:=hrel
  by_cases hlt:i<n
  ·obtain⟨m,hm⟩:∃ m,n-i=m+1:=⟨n-i-1,by omega⟩
   have hm2:n-(i+1)=m:=by omega
   have hX1:=hXi.out
   rw[hm] at hX1
   unfold yc6 at hX1
   by_cases h16:i%16=0
   ·rw[decide_eq_true h16] at hX1
    have hr1:(i:Int)%16=0:=by omega
    have hr2:Int.tmod (i:Int) 16=0:=by rw[Int.tmod_eq_emod_of_nonneg (by omega)];exact hr1
    have ht:=HTY.out p hp A8 c8 la
    have hpp:=HPL.out p la true
    generalize ycc b p la true=r at *
    obtain⟨s,p2,e2⟩:=r
    simp only at ht hpp hX1
    have HT:=Lib.hid ht
    by_cases he2:e2=0
    ·subst he2
     rw[if_neg (by decide)] at hX1
     obtain⟨hp2,hs2⟩:=hpp rfl
     obtain⟨i0,hi0,hz0,hz1,hz2⟩:=info_parts ygm
     have hvl:vs.length=i:=by have:=HEN.out.row.1;omega
     have HX1:=Lib.hid hX1;have HM2:=Lib.hid hm2;have HLT:=Lib.hid hlt;have HOL:=Lib.hid hol;have HP2:=Lib.hid hp2;have HS2:=Lib.hid hs2
     clear ht hpp hX1 hXi hm hm2 hlt hp2 hs2
     go_upto_region 14 with (go_at_call 121;refine(HT.out _ HBR.out HC8.out hc8 hla).mono ?_;rintro e w5 ⟨A5,c5,og,rfl,hb5,hB5⟩;simp only at hB5)
     have hen5:=HEN.out.below (fun k hk=>hb5.block k hk)
     have hby:=(hB5 trivial).lower HBR.out.size
     have hfr:∀ g,og=some g→∀ j:Nat,ogs[j]?≠some (some g):=fun g hg j hj=>by
      have h1:=HEN.out.low j g hj
      have h2:=(hB5 trivial).base_le g hg
      omega
     have hb6:=yae HBR.out HBR.out.size hb5
     obtain⟨A5',c5',he5,hc5,hC5⟩:=hby.reads
     injection he5 with he51 he52 he53
     subst he51;subst he53
     skip
     have HE5:=Lib.hid hen5;have HBY:=Lib.hid hby;have HFR:=Lib.hid hfr;have HB6:=Lib.hid hb6;have HC5:=Lib.hid hC5;have HHC:=Lib.hid hc5
     have hrow5:w5.ownsRow w.heap.size 25 1 (.slice A7 i c7) i vs:=by have:=HE5.out.row;rwa [hol] at this
     have HROW:=Lib.hid hrow5;have HSZ5:=Lib.hid hb5.size
     clear hen5 hby hfr hb6 hC5 hb5 hB5 hc5 hrow5
     go_wp2_with (at_builtin;refine wpList_append_own _ rfl _ _ 46 rfl w.heap.size 25 i0 (.slice none 0 0) 1 24 Tryz.underlying46 hi0 hz0 hz1 hz2 rfl (by decide) _ _ _ rfl (yf8 HROW.out _) ⟨w5.heap.size,0,none⟩ 1 1 [.slice A5 s.length c5] rfl (by simp) (cell_one_new _ _ _) (by simp [Value.oneCell']) (by unfold maxLen;omega) (by omega) (Nat.le_trans HB6.out.size (by simp)) ?_;intro v7 w7 hown7 hgrow7 hnil7)
     obtain⟨A9,c9,rfl⟩:=yh3 hown7
     have hbal:=yaj (Below.refl w5.heap.size w5) (.cells #[.slice A5 s.length c5] 25)
     have hE7:=EntX.push (og:=og) (s:=s) (HE5.out.below (fun k hk=>hbal.block k hk)) (Nat.le_trans HSZ5.out hbal.size) (HBY.out.keep (fun g hg=>hbal.block g (HBY.out.lt g hg))) HFR.out (by rw[hol];exact hown7) hgrow7
     have hb7:Below w.heap.size w _:=(yaj HB6.out (.cells #[.slice A5 s.length c5] 25)).grown hgrow7 (by simp;have:=HB6.out.size;omega) (fun k hk=>ydp HROW.out k hk)
     have hC7:Kd.C (Kd.int .u8) w7 A5 s.length s:=by
      obtain⟨u',og',h1,_,h3⟩:=hE7.each out.length (by simp)
      rw[hol,← hvl] at h1
      have hu:(vs++[Value.slice A5 s.length c5])[vs.length]?=some (.slice A5 s.length c5):=by simp
      rw[hu] at h1
      injection h1 with h1
      subst h1
      rw[List.getElem_append_right (Nat.le_refl _)] at h3
      simp only[Nat.sub_self,List.getElem_cons_zero] at h3
      obtain⟨A',c',e,_,hC⟩:=h3.reads
      injection e with e1 _ _
      rw[e1]
      exact hC
     have HE7:=Lib.hid hE7;have HB7:=Lib.hid hb7;have HC7:=Lib.hid hC7
     go_roundw
     case rel=>exact⟨i+1,p2,s,A5,c5,vs++[.slice A5 s.length c5],ogs++[og],out++[s],A9,c9,HLT.out,by go_num,rfl,HP2.out,rfl,HHC.out,HS2.out,by rw[List.length_append,HOL.out];rfl,rfl,Lib.hid (by rw[HM2.out];exact HX1.out),HC7,HE7,HB7⟩
     case measure=>have:=HLT.out;simp [intOf];omega
    ·rw[if_pos he2] at hX1
     have heb:(e2 == 0)=false:=by simpa using he2
     have HX1:=Lib.hid hX1;have HE2:=Lib.hid he2
     clear ht hpp hX1 hXi hm hm2
     go_wp2_with (go_at_call 121;refine(HT.out _ HBR.out HC8.out hc8 hla).mono ?_;rintro e w5 ⟨A5,c5,og,rfl,hb5,_⟩)
     go_ret2
     have hrr:=HRR.out
     rw[← HX1.out,if_pos HE2.out] at hrr
     subst hrr
     exact⟨_,rfl,yae HBR.out HBR.out.size hb5,EntB.nil _ _⟩
   ·rw[decide_eq_false h16] at hX1
    have hr1:¬ (i:Int)%16=0:=by omega
    have hr2:¬ Int.tmod (i:Int) 16=0:=by rw[Int.tmod_eq_emod_of_nonneg (by omega)];exact hr1
    have hr3:((i:Int)%16 == 0)=false:=by simpa using hr1
    have hr4:(Int.tmod (i:Int) 16 == 0)=false:=by simpa using hr2
    have ht:=HTX.out p hp A8 c8 la
    have hpp:=HPL.out p la false
    generalize ycc b p la false=r at *
    obtain⟨s,p2,e2⟩:=r
    simp only at ht hpp hX1
    have HT:=Lib.hid ht
    by_cases he2:e2=0
    ·subst he2
     rw[if_neg (by decide)] at hX1
     obtain⟨hp2,hs2⟩:=hpp rfl
     obtain⟨i0,hi0,hz0,hz1,hz2⟩:=info_parts ygm
     have hvl:vs.length=i:=by have:=HEN.out.row.1;omega
     have HX1:=Lib.hid hX1;have HM2:=Lib.hid hm2;have HLT:=Lib.hid hlt;have HOL:=Lib.hid hol;have HP2:=Lib.hid hp2;have HS2:=Lib.hid hs2
     clear ht hpp hX1 hXi hm hm2 hlt hp2 hs2
     go_upto_region 14 with (go_at_call 121;refine(HT.out _ HBR.out HC8.out hc8 hla).mono ?_;rintro e w5 ⟨A5,c5,og,rfl,hb5,hB5⟩;simp only at hB5)
     have hen5:=HEN.out.below (fun k hk=>hb5.block k hk)
     have hby:=(hB5 trivial).lower HBR.out.size
     have hfr:∀ g,og=some g→∀ j:Nat,ogs[j]?≠some (some g):=fun g hg j hj=>by
      have h1:=HEN.out.low j g hj
      have h2:=(hB5 trivial).base_le g hg
      omega
     have hb6:=yae HBR.out HBR.out.size hb5
     obtain⟨A5',c5',he5,hc5,hC5⟩:=hby.reads
     injection he5 with he51 he52 he53
     subst he51;subst he53
     skip
     have HE5:=Lib.hid hen5;have HBY:=Lib.hid hby;have HFR:=Lib.hid hfr;have HB6:=Lib.hid hb6;have HC5:=Lib.hid hC5;have HHC:=Lib.hid hc5
     have hrow5:w5.ownsRow w.heap.size 25 1 (.slice A7 i c7) i vs:=by have:=HE5.out.row;rwa [hol] at this
     have HROW:=Lib.hid hrow5;have HSZ5:=Lib.hid hb5.size
     clear hen5 hby hfr hb6 hC5 hb5 hB5 hc5 hrow5
     go_wp2_with (at_builtin;refine wpList_append_own _ rfl _ _ 46 rfl w.heap.size 25 i0 (.slice none 0 0) 1 24 Tryz.underlying46 hi0 hz0 hz1 hz2 rfl (by decide) _ _ _ rfl (yf8 HROW.out _) ⟨w5.heap.size,0,none⟩ 1 1 [.slice A5 s.length c5] rfl (by simp) (cell_one_new _ _ _) (by simp [Value.oneCell']) (by unfold maxLen;omega) (by omega) (Nat.le_trans HB6.out.size (by simp)) ?_;intro v7 w7 hown7 hgrow7 hnil7)
     obtain⟨A9,c9,rfl⟩:=yh3 hown7
     have hbal:=yaj (Below.refl w5.heap.size w5) (.cells #[.slice A5 s.length c5] 25)
     have hE7:=EntX.push (og:=og) (s:=s) (HE5.out.below (fun k hk=>hbal.block k hk)) (Nat.le_trans HSZ5.out hbal.size) (HBY.out.keep (fun g hg=>hbal.block g (HBY.out.lt g hg))) HFR.out (by rw[hol];exact hown7) hgrow7
     have hb7:Below w.heap.size w _:=(yaj HB6.out (.cells #[.slice A5 s.length c5] 25)).grown hgrow7 (by simp;have:=HB6.out.size;omega) (fun k hk=>ydp HROW.out k hk)
     have hC7:Kd.C (Kd.int .u8) w7 A5 s.length s:=by
      obtain⟨u',og',h1,_,h3⟩:=hE7.each out.length (by simp)
      rw[hol,← hvl] at h1
      have hu:(vs++[Value.slice A5 s.length c5])[vs.length]?=some (.slice A5 s.length c5):=by simp
      rw[hu] at h1
      injection h1 with h1
      subst h1
      rw[List.getElem_append_right (Nat.le_refl _)] at h3
      simp only[Nat.sub_self,List.getElem_cons_zero] at h3
      obtain⟨A',c',e,_,hC⟩:=h3.reads
      injection e with e1 _ _
      rw[e1]
      exact hC
     have HE7:=Lib.hid hE7;have HB7:=Lib.hid hb7;have HC7:=Lib.hid hC7
     go_roundw
     case rel=>exact⟨i+1,p2,s,A5,c5,vs++[.slice A5 s.length c5],ogs++[og],out++[s],A9,c9,HLT.out,by go_num,rfl,HP2.out,rfl,HHC.out,HS2.out,by rw[List.length_append,HOL.out];rfl,rfl,Lib.hid (by rw[HM2.out];exact HX1.out),HC7,HE7,HB7⟩
     case measure=>have:=HLT.out;simp [intOf];omega
    ·rw[if_pos he2] at hX1
     have heb:(e2 == 0)=false:=by simpa using he2
     have HX1:=Lib.hid hX1;have HE2:=Lib.hid he2
     clear ht hpp hX1 hXi hm hm2
     go_wp2_with (go_at_call 121;refine(HT.out _ HBR.out HC8.out hc8 hla).mono ?_;rintro e w5 ⟨A5,c5,og,rfl,hb5,_⟩)
     go_ret2
     have hrr:=HRR.out
     rw[← HX1.out,if_pos HE2.out] at hrr
     subst hrr
     exact⟨_,rfl,yae HBR.out HBR.out.size hb5,EntB.nil _ _⟩
  ·obtain rfl:i=n:=by omega
   have hX1:=hXi.out
   rw[Nat.sub_self,yc6] at hX1
   subst hX1
   have hrr:=HRR.out
   simp only at hrr
   rw[if_neg (by decide)] at hrr
   by_cases hpb:p<b.length
   ·rw[if_pos hpb] at hrr
    have hpi:(p:Int)<(b.length:Int):=by omega
    subst hrr
    clear hXi HRR HX
    go_wp2
    go_ret2
    exact⟨_,rfl,HBR.out,EntB.nil _ _⟩
   ·rw[if_neg hpb] at hrr
    have hpi:decide ((p:Int)<(b.length:Int))=false:=by simp;omega
    have hpn:b.length≤p:=by omega
    subst hrr
    clear hXi HRR HX
    go_wp2
    go_ret2
    exact⟨_,rfl,HBR.out,HEN.out.entB⟩
theorem EntB.of_S {w:World} {base:Nat} {v:Value} {es:List (List Int)} {ok:Nat→Prop} (h:Kd.S (Kd.slice 5 (Kd.int .u8)) 25 w base ok v es):EntB w base v es:=by
 obtain⟨f,hok,inner,ho,hr⟩:=h
 have hlen:inner.length=es.length:=by
  have:=hr.1
  rw[List.length_zipIdx] at this
  rw[this]
  exact Nat.mul_one _
 have hM:∀ j (hj:j<es.length),∃ u,inner[j]?=some u∧Byt w base u.ownBlock u es[j]∧∀ k,u.ownBlock=some k→f k=j:=by
  intro j hj
  obtain⟨u,e1,hu⟩:=hr.2 j (es[j],j) (by rw[List.getElem?_zipIdx,List.getElem?_eq_getElem hj];simp)
  have e2:(inner.drop (j*1)).take 1=[u]:=e1
  rw[Nat.mul_one,List.drop_eq_getElem_cons (by omega),List.take_succ_cons,List.take_zero] at e2
  injection e2 with e2
  exact⟨u,by rw[List.getElem?_eq_getElem (by omega),e2],Byt.of_own (Kd.own_of_R hu),fun k hk=>(hu.1 k hk).2⟩
 rw[List.length_zipIdx] at ho
 refine⟨inner,inner.map Value.ownBlock,ho,by rw[List.length_map,hlen],fun i j g hij hi hj=>?_,fun i hi=>?_⟩
 ·rw[List.getElem?_map,Option.map_eq_some_iff] at hi hj
  obtain⟨a,ha,e1⟩:=hi
  obtain⟨b,hb,e2⟩:=hj
  obtain⟨hil,_⟩:=List.getElem?_eq_some_iff.1 ha
  obtain⟨hjl,_⟩:=List.getElem?_eq_some_iff.1 hb
  obtain⟨u1,k1,_,k2⟩:=hM i (by omega)
  obtain⟨u2,k3,_,k4⟩:=hM j (by omega)
  rw[ha] at k1
  rw[hb] at k3
  injection k1 with k1
  injection k3 with k3
  subst k1;subst k3
  have h1:=k2 g e1
  have h2:=k4 g e2
  omega
 ·obtain⟨u,hu,hB,_⟩:=hM i hi
  exact⟨u,u.ownBlock,hu,by rw[List.getElem?_map,hu];rfl,hB⟩
def yh0 (v:Int):List Value:=[.bool false,.int .i64 v,.slice none 0 0]
theorem yqn (v:Int):∀ u∈yh0 v,u.oneCell'=true:=by
 intro u hu
 simp only[yh0,List.mem_cons,List.not_mem_nil,or_false] at hu
 rcases hu with rfl|rfl|rfl <;> rfl
theorem CelB.nums {w:World} {base:Nat} {v:Value} {vs:List Int} (h:Kd.R (Kd.raw 3) 53 w base (fun _=>True) v (vs.map yh0)):CelB w base v (vs.map yds):=by
 refine⟨vs.map fun x=>⟨yds x,.slice none 0 0,none⟩,by rw[List.map_map];rfl,fun t ht=>?_,?_,by rw[List.map_map];exact h⟩
 ·obtain⟨x,_,rfl⟩:=List.mem_map.1 ht
  exact .inl ⟨rfl,rfl,rfl⟩
 ·rw[List.pairwise_map]
  exact List.Pairwise.imp (fun _ g hg=>by cases hg) (List.pairwise_of_forall (R:=fun _ _=>True) (fun _ _=>trivial))
theorem yle {kind codec:Int} (hcd:codec=2∨codec=3) (A:Option Addr) (c:Nat) (b:List Int) (n:Nat) (w:World) (vs:List Int) (er:Int) (hc:b.length≤c) (hn:n≤4096) (hvl:vs.length≤4096)
  (hcall:∀ w2,Below w.heap.size w w2→Calls Tryz.prog (if codec=2 then 76 else 77) #[.slice A b.length c] w2 (yll w2 vs er)) :
  Calls Tryz.prog 46 #[.int .i64 kind,.int .i64 codec,.slice A b.length c,.int .i64 n] w (yd4 w (ybv (vs.map yds) er n).1 (ybv (vs.map yds) er n).2):=by
 rcases hcd with rfl|rfl
 all_goals
  first|rw[if_pos rfl] at hcall|rw[if_neg (by decide)] at hcall
  have HC:=Lib.hid hcall
  clear hcall
  go_enter Tryz.func46,Tryz.ntmps46
  go_upto_region 4 with (fail)
  have hb2:=yaj (yaj (Below.refl w.heap.size w) (.cells #[] 2)) (.cells #[] 25)
  have HB2:=Lib.hid hb2
  clear hb2
  generalize ((w.alloc (.cells #[] 2)).alloc (.cells #[] 25))=w2 at *
  go_upto_region 13 with (first
   | (go_at_call 76;refine(HC.out _ HB2.out).mono ?_;rintro e w5 ⟨v5,rfl,hR5,hb5⟩;obtain⟨A5,c5,rfl,hc5,hC5⟩:=Kd.R_reads hR5)
   | (go_at_call 77;refine(HC.out _ HB2.out).mono ?_;rintro e w5 ⟨v5,rfl,hR5,hb5⟩;obtain⟨A5,c5,rfl,hc5,hC5⟩:=Kd.R_reads hR5))
  have HB5:=Lib.hid (yae HB2.out HB2.out.size hb5);have HC5:=Lib.hid (Kd.R_lower hR5 HB2.out.size)
  clear hR5 hb5 hC5 HB2 HC
  by_cases he:er=0
  rotate_left
  ·have hX:ybv (vs.map yds) er n=([],er):=by unfold ybv;rw[if_pos he]
   have heb:(er == 0)=false:=by simpa using he
   have HE:=Lib.hid he;have HX:=Lib.hid hX
   clear hX he
   go_wp2
   go_ret2
   rw[HX.out]
   exact⟨_,rfl,HB5.out,fun h=>absurd h HE.out⟩
  subst he
  by_cases hm:vs.length=n
  rotate_left
  ·have hX:ybv (vs.map yds) 0 n=([],5):=by unfold ybv;rw[if_neg (by decide),if_pos (by rw[List.length_map];exact hm)]
   have HX:=Lib.hid hX
   have hmi:¬ (vs.length:Int)=(n:Int):=by omega
   have hmb:((vs.length:Int) == (n:Int))=false:=by simpa using hmi
   clear hX
   go_wp2
   go_ret2
   rw[HX.out]
   exact⟨_,rfl,HB5.out,fun h=>absurd h (by decide)⟩
  subst hm
  have HX:=Lib.hid (yeu (vs.map yds) vs.length (List.length_map _))
  go_upto_region 18 with (fail)
  have h13:=yje (Kd.raw 3) w5 53 w.heap.size HB5.out.size
  have HB6:=Lib.hid (yaj HB5.out (.cells #[] 53));have H13:=Lib.hid h13;have HC6:=Lib.hid (Kd.R_alloc HC5.out (.cells #[] 53))
  clear h13 HB5 HC5
  generalize w5.alloc (.cells #[] 53)=w6 at *
  go_wp2
  go_loopw [13,14] (fun v13 vi wq=>∃ i:Nat,i≤vs.length∧vi=.int .i64 i∧RowKit.Hid (Kd.R (Kd.raw 3) 53 wq w.heap.size (fun _=>True) v13 ((vs.take i).map yh0))∧RowKit.Hid (Below w.heap.size w wq)∧RowKit.Hid (Kd.R (Kd.int .i64) 2 wq w.heap.size (fun _=>True) (.slice A5 vs.length c5) vs)) (fun _ vi _=>vs.length-(intOf vi).toNat)
  case atStart=>exact⟨0,Nat.zero_le _,rfl,Lib.hid (by rw[List.take_zero];exact H13.out),HB6,HC6⟩
  case round =>
   clear H13 HB6 HC6
   obtain⟨i,hi9,rfl,HR,HB,HV⟩:=hrel
   obtain⟨A13,c13,rfl⟩:=Kd.R_slice HR.out
   have htk:((vs.take i).map yh0).length=i:=by rw[List.length_map,List.length_take];omega
   rw[htk] at HR ⊢
   by_cases hlt:i<vs.length
   ·obtain⟨A5',c5',he5,_,hC5⟩:=Kd.R_reads HV.out
    injection he5 with he51 he52 he53
    obtain⟨ad,hA5,hx⟩:=Kd.at_int hC5 (i:Int) (by omega) (by omega)
    rw[← he51] at hA5
    subst hA5
    clear he51 he52 he53 hC5
    rw[ybj hlt,Int.toNat_natCast] at hx
    have hsn:=ybd vs i hlt
    obtain⟨x,hxe⟩:∃ x,x=vs[i]:=⟨_,rfl⟩
    rw[← hxe] at hx hsn
    have HSN:=Lib.hid hsn;have HLT:=Lib.hid hlt;have HTK:=Lib.hid htk
    clear hsn hlt hxe htk
    generalize vs.take i=ts at *
    go_wp2_with (at_builtin;refine Kd.R_append (Kd.raw 3) (w0:=w) w.heap.size rfl (.tmp 72) (.tmp 78) 22 53 (.agg #[.bool false,.int .i64 0,.slice none 0 0]) 40 rfl Tryz.underlying22 ygj rfl (by decide) (by decide) _ (ts.map yh0) (yh0 x) (yh0 x) (fun _=>True) (fun _=>False) rfl rfl ⟨rfl,rfl,yqn x⟩ (fun _ hk=>hk.elim) (fun _ _=>trivial) HR.out HB.out HB.out.size (by have:=HTK.out;have:=HLT.out;omega) ?_;intro v7 w7 hR7 hb7 hg7 hat7;have HR7:=Lib.hid hR7;have HB7:=Lib.hid hb7;have HV7:=Lib.hid (Kd.R_over' HV.out (Kd.R_typed HR.out) (by decide) hg7);obtain⟨A7,c7,rfl⟩:=Kd.R_slice hR7;clear hR7 hb7 hg7 hat7)
    go_roundw
    case rel=>exact⟨i+1,HLT.out,by go_num,Lib.hid (by have h:=HR7.out;rw[List.length_append,List.length_map] at h;rw[← HSN.out,List.map_append];exact h),HB7,HV7⟩
    case measure=>have:=HLT.out;simp [intOf];omega
   ·obtain rfl:i=vs.length:=by omega
    rw[List.take_length] at HR
    go_wp2
    go_loopw [13,15] (fun v13 vi wq=>v13=.slice A13 vs.length c13∧vi=.int .i64 0∧wq=wr) (fun _ _ _=>0)
    case atStart=>exact⟨rfl,rfl,rfl⟩
    case round =>
     obtain⟨rfl,rfl,rfl⟩:=hrel
     go_wp2
     go_ret2
     rw[HX.out]
     exact⟨.slice A13 vs.length c13,rfl,HB.out,fun _=>CelB.nums HR.out⟩
theorem ykj {kind codec:Int} (hcd:codec=4∨codec=5) (A:Option Addr) (c:Nat) (b:List Int) (n:Nat) (w:World) (es:List (List Int)) (er:Int) (hc:b.length≤c) (hn:n≤4096) (hvl:es.length≤4096)
  (hcall:∀ w2,Below w.heap.size w w2→Calls Tryz.prog (if codec=4 then 78 else 79) #[.slice A b.length c] w2 (yke w2 es er)) :
  Calls Tryz.prog 46 #[.int .i64 kind,.int .i64 codec,.slice A b.length c,.int .i64 n] w (yd4 w (ybv (es.map ycw) er n).1 (ybv (es.map ycw) er n).2):=by
 rcases hcd with rfl|rfl
 all_goals
  first|rw[if_pos rfl] at hcall|rw[if_neg (by decide)] at hcall
  have HC:=Lib.hid hcall
  clear hcall
  go_enter Tryz.func46,Tryz.ntmps46
  go_upto_region 4 with (fail)
  have hb2:=yaj (yaj (Below.refl w.heap.size w) (.cells #[] 2)) (.cells #[] 25)
  have HB2:=Lib.hid hb2
  clear hb2
  generalize ((w.alloc (.cells #[] 2)).alloc (.cells #[] 25))=w2 at *
  go_upto_region 13 with (first
   | (go_at_call 78;refine(HC.out _ HB2.out).mono ?_;rintro e w5 ⟨v5,rfl,hb5,hE5⟩;obtain⟨A5,c5,rfl,hc5,hC5⟩:=hE5.reads)
   | (go_at_call 79;refine(HC.out _ HB2.out).mono ?_;rintro e w5 ⟨v5,rfl,hb5,hE5⟩;obtain⟨A5,c5,rfl,hc5,hC5⟩:=hE5.reads))
  have HB5:=Lib.hid (yae HB2.out HB2.out.size hb5);have HSZ:=Lib.hid hb5.size
  obtain⟨us,ogs,hX5⟩:=EntX.of hE5
  have HE:=Lib.hid hX5
  clear hE5 hb5 hC5 HC hX5
  by_cases he:er=0
  rotate_left
  ·have hX:ybv (es.map ycw) er n=([],er):=by unfold ybv;rw[if_pos he]
   have heb:(er == 0)=false:=by simpa using he
   have HX:=Lib.hid hX;have HE2:=Lib.hid he
   clear hX he
   go_wp2
   go_ret2
   rw[HX.out]
   exact⟨_,rfl,HB5.out,fun h=>absurd h HE2.out⟩
  subst he
  by_cases hm:es.length=n
  rotate_left
  ·have hX:ybv (es.map ycw) 0 n=([],5):=by unfold ybv;rw[if_neg (by decide),if_pos (by rw[List.length_map];exact hm)]
   have HX:=Lib.hid hX
   have hmi:¬ (es.length:Int)=(n:Int):=by omega
   have hmb:((es.length:Int) == (n:Int))=false:=by simpa using hmi
   clear hX
   go_wp2
   go_ret2
   rw[HX.out]
   exact⟨_,rfl,HB5.out,fun h=>absurd h (by decide)⟩
  subst hm
  have HX:=Lib.hid (yeu (es.map ycw) es.length (List.length_map _))
  go_upto_region 18 with (fail)
  have h13:=yje (Kd.raw 3) w5 53 w5.heap.size (Nat.le_refl _)
  have HB6:=Lib.hid (yaj (Below.refl w5.heap.size w5) (.cells #[] 53));have H13:=Lib.hid h13
  clear h13
  generalize w5.alloc (.cells #[] 53)=w6 at *
  go_wp2
  go_loopw [13,14] (fun v13 vi wq=>v13=.slice (some ⟨w5.heap.size,0,none⟩) 0 0∧vi=.int .i64 0∧wq=w6) (fun _ _ _=>0)
  case atStart=>exact⟨rfl,rfl,rfl⟩
  case round =>
   obtain⟨rfl,rfl,rfl⟩:=hrel
   go_wp2
   go_loopw [13,15] (fun v13 vi wq=>∃ i:Nat,i≤es.length∧vi=.int .i64 i∧RowKit.Hid (CelT wq w2.heap.size v13 ((asT us ogs es).take i))∧RowKit.Hid (Kd.R (Kd.raw 3) 53 wq w5.heap.size (fun _=>True) v13 (((asT us ogs es).take i).map OwnT.row))∧RowKit.Hid (Below w5.heap.size w5 wq)) (fun _ vi _=>es.length-(intOf vi).toNat)
   case atStart=>exact⟨0,Nat.zero_le _,rfl,Lib.hid (by rw[List.take_zero];exact⟨fun t ht=>(by cases ht),List.Pairwise.nil,Kd.R_lower H13.out HSZ.out⟩),Lib.hid (by rw[List.take_zero];exact H13.out),HB6⟩
   case round =>
    clear H13 HB6
    obtain⟨i,hi9,rfl,HT,HRW,HBR⟩:=hrel
    obtain⟨A6,c6,rfl⟩:=HT.out.slice
    have htk:((asT us ogs es).take i).length=i:=by rw[List.length_take,yel];omega
    by_cases hlt:i<es.length
    ·obtain⟨ad,rfl⟩:∃ ad,A5=some ad:=by
      obtain⟨A',c',he,_,hC⟩:=HE.out.entB.reads
      injection he with he
      subst he
      obtain⟨ad,e,_⟩:=hC.2.2 (by omega)
      exact⟨ad,e⟩
     obtain⟨A',c',og,hvs,hog,hB,hc',hC',hcell⟩:=HE.out.at hlt
     have hx:=(HBR.out.cell (World.block_lt_of_cell? w5 _ hcell)).trans hcell
     have hti:(asT us ogs es)[i]'(by rw[yel];exact hlt)=⟨ycw es[i],.slice A' es[i].length c',og⟩:=yku hlt hvs hog
     have hsn:(asT us ogs es).take (i+1)=(asT us ogs es).take i++[⟨ycw es[i],.slice A' es[i].length c',og⟩]:=by rw[← ybd _ i (by rw[yel];exact hlt),hti]
     have hfr:∀ g,og=some g→∀ x∈(asT us ogs es).take i,x.og≠some g:=by
      intro g hg x hx hxg
      obtain⟨j,hj,rfl⟩:=List.mem_iff_getElem.1 hx
      rw[htk] at hj
      obtain⟨u2,og2,hu2,hog2,_⟩:=HE.out.each j (by omega)
      rw[List.getElem_take,yku (by omega) hu2 hog2] at hxg
      simp only at hxg
      subst hxg
      exact HE.out.apart j i g hj hog2 (by rw[hog,hg])
     have hBq:Byt wr w2.heap.size og (.slice A' es[i].length c') es[i]:=hB.keep (fun g hg=>HBR.out.block g (hB.lt g hg))
     obtain⟨s,hs⟩:∃ s,s=es[i]:=⟨_,rfl⟩
     rw[← hs] at hx hsn hBq
     obtain⟨sl,hsl⟩:∃ sl,sl=s.length:=⟨_,rfl⟩
     rw[← hsl] at hx hsn hBq
     have HSN:=Lib.hid hsn;have HFR:=Lib.hid hfr;have HBQ:=Lib.hid hBq;have HLT:=Lib.hid hlt
     have hrl:(((asT us ogs es).take i).map OwnT.row).length=i:=by rw[List.length_map,htk]
     have HRL:=Lib.hid hrl;have HTK:=Lib.hid htk
     clear hs hsl hsn hfr hBq hrl htk hti hcell hC' hB hvs hog hc' hlt
     generalize (asT us ogs es).take i=ts at *
     go_wp2_with (at_builtin;refine Kd.R_append (Kd.raw 3) (w0:=w5) w5.heap.size rfl (.tmp 86) (.tmp 92) 22 53 (.agg #[.bool false,.int .i64 0,.slice none 0 0]) 40 rfl Tryz.underlying22 ygj rfl (by decide) (by decide) _ (ts.map OwnT.row) [.bool false,.int .i64 0,.slice A' sl c'] [.bool false,.int .i64 0,.slice A' sl c'] (fun _=>True) (fun _=>False) rfl rfl ⟨rfl,rfl,yln A' sl c'⟩ (fun _ hk=>hk.elim) (fun _ _=>trivial) HRW.out HBR.out HBR.out.size (by have:=HRL.out;have:=HLT.out;omega) ?_;intro v7 w7 hR7 hb7 hg7 hat7;have hT7:=HT.out.push (t:=⟨ycw s,.slice A' sl c',og⟩) hg7 HFR.out HBQ.out (Kd.R_lower hR7 HSZ.out);have HT7:=Lib.hid hT7;have HB7:=Lib.hid hb7;have HR7:=Lib.hid hR7;obtain⟨A7,c7,rfl⟩:=hT7.slice;clear hR7 hb7 hg7 hat7 hT7)
     go_roundw
     case rel=>exact⟨i+1,HLT.out,by go_num,Lib.hid (by have h:=HT7.out;rw[List.length_append] at h;rw[HSN.out];exact h),Lib.hid (by have h:=HR7.out;rw[List.length_append] at h;rw[HSN.out,List.map_append];exact h),HB7⟩
     case measure=>have:=HLT.out;simp [intOf];omega
    ·obtain rfl:i=es.length:=by omega
     have hta:(asT us ogs es).take es.length=asT us ogs es:=List.take_of_length_le (by rw[yel];exact Nat.le_refl _)
     rw[hta] at HT ⊢
     rw[yel] at HT ⊢
     clear hta htk
     go_wp2
     go_ret2
     rw[HX.out]
     exact⟨.slice A6 es.length c6,rfl,yae HB5.out HB5.out.size HBR.out,fun _=>CelB.lower ⟨_,yna us ogs es,HT.out⟩ HB2.out.size⟩
theorem yqc {kind codec:Int} (hf:ycz kind codec) (A:Option Addr) (c:Nat) (b:List Int) (n:Nat) (w:World) (h:Kd.C (Kd.int .u8) w A b.length b) (hc:b.length≤c) (hb:Bys b) (hl:b.length≤65000) (hn:n≤4096) :
  Calls Tryz.prog 46 #[.int .i64 kind,.int .i64 codec,.slice A b.length c,.int .i64 n] w (yd4 w (ybi kind codec b n).1 (ybi kind codec b n).2):=by
 rcases hf with rfl|⟨_,rfl|rfl⟩|⟨_,rfl|rfl⟩
 ·rw[yif]
  obtain⟨k,hk⟩:=(rplain_ev kind hb hl n hn).ex
  have hp:=ybr.calls k kind A c b n (yfy kind b n).1 (yfy kind b n).2 w h hc hk
  clear hk
  generalize yfy kind b n=r at *
  obtain⟨cs,er⟩:=r
  have HP:=Lib.hid hp
  clear hp h hb
  go_enter Tryz.func46,Tryz.ntmps46
  go_wp2_with (go_at_call 75;refine(HP.out).mono ?_;rintro e w1 ⟨v1,rfl,hS1,hb1⟩)
  go_ret2
  exact⟨_,rfl,hb1,fun _=>CelB.of_S hS1⟩
 ·rw[show ybi kind 2 b n=ybv ((ydj b).1.map yds) (ydj b).2 n by unfold ybi;rw[if_neg (by decide),if_pos rfl]]
  obtain⟨k,hk⟩:=(rrunsd_ev hb hl).ex
  exact yle (.inl rfl) A c b n w _ _ hc hn (yld hb) (fun w2 hb2=>yaq.calls k A c b _ _ w2 (Kd.C_below h hb2) hc hk)
 ·rw[show ybi kind 3 b n=ybv ((yet b).1.map yds) (yet b).2 n by unfold ybi;rw[if_neg (by decide),if_neg (by decide),if_pos rfl]]
  obtain⟨k,hk⟩:=(rpkd_ev hb hl).ex
  exact yle (.inr rfl) A c b n w _ _ hc hn (ynl hb) (fun w2 hb2=>ygd.calls k A c b _ _ w2 (Kd.C_below h hb2) hc hk)
 ·rw[show ybi kind 4 b n=ybv ((decS b).1.map ycw) (decS b).2 n by unfold ybi;rw[if_neg (by decide),if_neg (by decide),if_neg (by decide),if_pos rfl]]
  obtain⟨k,hk⟩:=(rdec_law hb (by omega)).ex
  refine ykj (.inl rfl) A c b n w _ _ hc hn (yox hb) (fun w2 hb2=>(ybe.calls k A c b _ _ w2 (Kd.C_below h hb2) hc hk).mono ?_)
  rintro e w3 ⟨v,rfl,hS,hb3⟩
  exact⟨v,rfl,hb3,EntB.of_S hS⟩
 ·rw[show ybi kind 5 b n=ybv ((ydr b).1.map ycw) (ydr b).2 n by unfold ybi;rw[if_neg (by decide),if_neg (by decide),if_neg (by decide),if_neg (by decide)]]
  exact ykj (.inr rfl) A c b n w _ _ hc hn (ylt hb) (fun w2 hb2=>yp3 A c b w2 (Kd.C_below h hb2) hc hb hl)
theorem raw3_at {w:World} {A:Option Addr} {n:Nat} {rows:List (List Value)} (h:Kd.C (Kd.raw 3) w A n rows) {i:Nat} (hi:i<n) {a b c:Value} (hr:rows[i]?=some [a,b,c]) :
  ∃ ad,A=some ad∧w.cell? (ad.add (i*3))=some a∧w.cell? ⟨(ad.add (i*3)).block,(ad.add (i*3)).off+1,none⟩=some b∧w.cell? ⟨(ad.add (i*3)).block,(ad.add (i*3)).off+2,none⟩=some c:=by
 obtain⟨ad,rfl,hcell⟩:=h.2.2 (by omega)
 obtain⟨c0,hc0,hK,hce⟩:=hcell i _ hr
 obtain⟨rfl,_⟩:=hK
 refine⟨ad,rfl,?_,?_,?_⟩
 ·exact hce 0 a rfl
 ·rw[← yh2 _ _ 1 (by omega)];exact hce 1 b rfl
 ·rw[← yh2 _ _ 2 (by omega)];exact hce 2 c rfl
theorem yp2:∀ u∈yem.row,u.oneCell'=true:=by
 intro u hu
 simp only[yem,OwnT.row,celV,yex,List.mem_cons,List.not_mem_nil,or_false] at hu
 rcases hu with rfl|rfl|rfl <;> rfl
theorem row3_one (x:Bool) (y:Int) (A:Option Addr) (n c:Nat):∀ u∈[Value.bool x,.int .i64 y,.slice A n c],u.oneCell'=true:=by
 intro u hu
 simp only[List.mem_cons,List.not_mem_nil,or_false] at hu
 rcases hu with rfl|rfl|rfl <;> rfl
theorem yqg (kind:Int) (A:Option Addr) (c:Nat) (b:List Int) (w:World) (h:Kd.C (Kd.int .u8) w A b.length b) (hc:b.length≤c) (hb:Bys b) (hk:yd6 kind) (hl:b.length≤65000) (hs:yc9 b=true) (l:List Cel) (er:Int) (hD:yfs kind (b.take (b.length-4))=(l,er)) :
  Calls Tryz.prog 20 #[.int .i64 kind,.slice A b.length c] w (yby w l er):=by
 have hkk:=hk
 obtain⟨hk1,hk2⟩:=hk
 have h4:4≤b.length:=by
  unfold yc9 at hs
  exact(of_decide_eq_true hs).1
 obtain⟨ks,hks⟩:=(ymc hb (by omega)).ex
 rw[hs] at hks
 obtain⟨M,hM⟩:∃ M,M=b.length-4:=⟨_,rfl⟩
 have hpc:=yf1 b 0 M (by omega) (by omega) (by omega)
 rw[List.drop_zero,Nat.sub_zero] at hpc
 rw[← hM] at hD
 obtain⟨kp,hkp⟩:=hpc.ex
 have hxb:Bys (b.take M):=hb.take M
 have hxl:(b.take M).length=M:=by rw[List.length_take];omega
 rw[show((0:Nat):Int)=0 from rfl,show(M:Int)=(b.length:Int)-4 by omega] at hkp
 generalize b.take M=xs at *
 obtain rfl:=hxl
 have hgd1:decide (kind<1)=false:=decide_eq_false (by omega)
 have hgd2:decide (8<kind)=false:=decide_eq_false (by omega)
 have hbl:decide ((65000:Int)<(b.length:Int))=false:=decide_eq_false (by omega)
 have hpiece:=fun(w2:World) (hb2:Below w.heap.size w w2)=>yag.calls kp A c b 0 ((b.length:Int)-4) xs w2 (Kd.C_below h hb2) hc hkp
 have hsl:=yeo.calls ks A c b true w h hc hks
 have HP:=Lib.hid hpiece;have HS:=Lib.hid hsl;have HXB:=Lib.hid hxb;have HKK:=Lib.hid hkk
 have hx65:xs.length≤65000:=by omega
 clear hpiece hsl hxb hkk hkp hks h hb hs hpc hM h4
 by_cases h0:xs.length=0
 ·have hd:yfs kind xs=([],2):=by unfold yfs;rw[if_pos h0]
  rw[hd] at hD
  injection hD with hD1 hD2
  subst hD1;subst hD2
  clear hd
  have h0b:((xs.length:Int) == 0)=true:=by simpa using h0
  have HH0:=Lib.hid h0
  go_enter Tryz.func20,Tryz.ntmps20
  go_wp2_with (first
   | (go_at_call 42;refine(HS.out).mono ?_;rintro e w1 ⟨rfl,hb1⟩)
   | (go_at_call 43;refine(HP.out _ hb1).mono ?_;rintro e w2 ⟨v2,rfl,hR2,hb2⟩;obtain⟨A2,c2,rfl,hc2,hC2⟩:=Kd.R_reads hR2;have hB2:=yae hb1 hb1.size hb2))
  go_ret2
  exact yby.none (by decide) hB2
 have hpos:0<xs.length:=by omega
 have hX:yfs kind xs=if ¬ ycz kind (xs.getD 0 0) then ([],120) else
   if (vget xs 1).2.2≠0 then ([],(vget xs 1).2.2) else
   if 4096<(vget xs 1).1 then ([],4) else yhf kind (xs.getD 0 0) xs (ybt xs (vget xs 1).2.1 (vget xs 1).1):=by
  unfold yfs yhf
  rw[if_neg h0]
 rw[hX] at hD
 clear hX h0
 have hxx:0≤xs.getD 0 0∧xs.getD 0 0<256:=by
  rw[List.getD_eq_getElem?_getD,List.getElem?_eq_getElem hpos]
  exact HXB.out _ (List.getElem_mem hpos)
 have hrd:rd xs (0:Int)=xs.getD 0 0:=rfl
 generalize xs.getD 0 0=x at *
 have hfl:=rfits_law HKK.out x
 obtain⟨kg,hkg⟩:=(yfe xs 1 HXB.out (by omega) (by omega)).ex
 rw[show((1:Nat):Int)=1 from rfl] at hkg
 have hle1:=fun h=>(ycp HXB.out (p:=1) h).1
 generalize vget xs 1=g at *
 obtain⟨n,p,e1⟩:=g
 simp only at hkg hle1 hD
 have hwx:IntKind.i64.wrap x=x:=ydm _ (by omega) (by omega)
 have hposi:(0:Int)<(xs.length:Int):=by omega
 have hp0b:((xs.length:Int) == 0)=false:=beq_eq_false_iff_ne.2 (by omega)
 have HKG:=Lib.hid hkg;have HD:=Lib.hid hD;have HFL:=Lib.hid hfl
 clear hkg hD hfl
 go_enter Tryz.func20,Tryz.ntmps20
 go_upto_region 10 with (first
  | (go_at_call 42;refine(HS.out).mono ?_;rintro e w1 ⟨rfl,hb1⟩)
  | (go_at_call 43;refine(HP.out _ hb1).mono ?_;rintro e w2 ⟨v2,rfl,hR2,hb2⟩;obtain⟨A2,c2,rfl,hc2,hC2⟩:=Kd.R_reads hR2;have hB2:=yae hb1 hb1.size hb2))
 obtain⟨ad,rfl,hx0⟩:=Kd.at_int hC2 (0:Int) (by omega) (by omega)
 have a0:ad.add 0=ad:=by simp [Addr.add]
 rw[hrd,show(0:Int).toNat=0 from rfl,a0] at hx0
 have HB2:=Lib.hid hB2;have HC2:=Lib.hid hC2;have HX0:=Lib.hid (fun(w':World) (hb':Below w2.heap.size w2 w')=>(hb'.cell (World.block_lt_of_cell? w2 _ hx0)).trans hx0)
 clear hb1 hb2 hR2 hB2 hC2 HS HP hrd a0
 by_cases hfit:ycz kind x
 rotate_left
 ·have hd:=HD.out
  rw[if_pos hfit] at hd
  injection hd with hd1 hd2
  subst hd1;subst hd2
  rw[decide_eq_false hfit] at HFL
  clear hfit HD
  go_wp2_with (go_at_call 32;refine(ye2.calls kind x false _ HFL.out).mono ?_;rintro e w3 ⟨rfl,hd3⟩;have hB3:=yae HB2.out HB2.out.size hd3.below)
  go_ret2
  exact yby.none (by decide) hB3
 have hd:=HD.out
 rw[if_neg (fun h=>h hfit)] at hd
 rw[decide_eq_true hfit] at HFL
 have HFIT:=Lib.hid hfit
 clear HD hfit
 go_upto_region 13 with (first
  | (go_at_call 32;refine(ye2.calls kind x true _ HFL.out).mono ?_;rintro e w3 ⟨rfl,hd3⟩)
  | (go_at_call 44;refine(yac.calls kg (some ad) c2 xs 1 _ _ _ _ (Kd.C_below HC2.out hd3.below) hc2 HKG.out).mono ?_;rintro e w4 ⟨rfl,hd4⟩))
 have HB24:=Lib.hid (yae hd3.below hd3.below.size hd4.below)
 clear hd3 hd4 hx0 HFL HKG
 have HB4:=Lib.hid (yae HB2.out HB2.out.size HB24.out);have HC4:=Lib.hid (Kd.C_below HC2.out HB24.out)
 have HX4:=Lib.hid (fun(w':World) (hb':Below w4.heap.size w4 w')=>HX0.out w' (yae HB24.out HB24.out.size hb'))
 clear HX0 HB24 HB2 HC2
 by_cases he1:e1=0
 rotate_left
 ·rw[if_pos he1] at hd
  injection hd with hd1 hd2
  subst hd1;subst hd2
  have heb:(e1 == 0)=false:=by simpa using he1
  have HE1:=Lib.hid he1
  clear he1 hle1
  go_wp2
  go_ret2
  exact yby.none HE1.out HB4.out
 rw[if_neg (fun h=>h he1)] at hd
 have hp:=hle1 he1
 subst he1
 clear hle1
 by_cases hn:4096<n
 ·rw[if_pos hn] at hd
  injection hd with hd1 hd2
  subst hd1;subst hd2
  have hni:(4096:Int)<(n:Int):=by omega
  go_wp2
  go_ret2
  exact yby.none (by decide) HB4.out
 rw[if_neg hn] at hd
 have hni:decide ((4096:Int)<(n:Int))=false:=decide_eq_false (by omega)
 have hn4:n≤4096:=by omega
 have hwn:IntKind.i64.wrap (n:Int)=(n:Int):=ydm _ (by omega) (by omega)
 obtain⟨kn,hkn⟩:=(rnulls_ev HXB.out hx65 p n hn4 hp).ex
 have hnb:=@yj2 xs HXB.out p n
 generalize ybt xs p n=r at *
 obtain⟨us,q,e2⟩:=r
 simp only at hkn hnb hd
 have HKN:=Lib.hid hkn;have HNB:=Lib.hid hnb;have HD:=Lib.hid hd
 clear hkn hnb hd hn
 go_upto_region 18 with (go_at_call 45;refine(ybn.calls kn (some ad) c2 xs p n us q e2 _ HC4.out hc2 HKN.out).mono ?_;rintro e w5 ⟨v5,rfl,hR5,hb5⟩;obtain⟨A5,c5,rfl,hc5,hC5⟩:=Kd.R_reads hR5)
 have HB5:=Lib.hid (yae HB4.out HB4.out.size hb5);have HC5:=Lib.hid hC5;have HCX:=Lib.hid (Kd.C_below HC4.out hb5)
 have HX5:=Lib.hid (fun(w':World) (hb':Below w5.heap.size w5 w')=>HX4.out w' (yae hb5 hb5.size hb'))
 clear hR5 hb5 hC5 HB4 HC4 HX4 HKN
 by_cases he2:e2=0
 rotate_left
 ·have hd:=HD.out
  unfold yhf at hd
  rw[if_pos he2] at hd
  injection hd with hd1 hd2
  subst hd1;subst hd2
  have heb:(e2 == 0)=false:=by simpa using he2
  have HE2:=Lib.hid he2
  clear he2 HD
  go_wp2
  go_ret2
  exact yby.none HE2.out HB5.out
 subst he2
 obtain⟨hun,hu01,hq,_⟩:=HNB.out rfl
 subst hun
 have HU:=Lib.hid hu01
 clear HNB hu01
 go_wp2
 go_loopw [13,14] (fun v13 vi wq=>∃ i:Nat,i≤us.length∧vi=.int .i64 i∧v13=.int .i64 ((ya8 (us.take i):Nat):Int)∧wq=w5) (fun _ vi _=>us.length-(intOf vi).toNat)
 case atStart=>exact⟨0,Nat.zero_le _,rfl,rfl,rfl⟩
 case round =>
  obtain⟨i,hi9,rfl,rfl,rfl⟩:=hrel
  have hzi:ya8 (us.take i)≤4096:=Nat.le_trans List.count_le_length (by rw[List.length_take];omega)
  by_cases hlt:i<us.length
  ·obtain⟨ad1,rfl,hx⟩:=Kd.at_int HC5.out (i:Int) (by omega) (by omega)
   rw[ybj hlt,Int.toNat_natCast] at hx
   have hsn:=yht (us.take i) us[i]
   rw[ybd us i hlt] at hsn
   rcases HU.out us[i] (List.getElem_mem hlt) with h0|h0
   ·rw[h0] at hx hsn
    rw[if_pos rfl] at hsn
    have HSN:=Lib.hid hsn
    generalize ya8 (us.take i)=z at *
    clear hsn h0
    go_wp2
    go_roundw
    case rel=>exact⟨i+1,by omega,by go_num,by rw[HSN.out];go_num,trivial⟩
    case measure=>simp [intOf];omega
   ·rw[h0] at hx hsn
    rw[if_neg (by decide)] at hsn
    have HSN:=Lib.hid hsn
    generalize ya8 (us.take i)=z at *
    clear hsn h0
    go_wp2
    go_roundw
    case rel=>exact⟨i+1,by omega,by go_num,by rw[HSN.out];go_num,trivial⟩
    case measure=>simp [intOf];omega
  ·obtain rfl:i=us.length:=by omega
   rw[List.take_length] at *
   clear hlt
   have hd:=HD.out
   unfold yhf at hd
   rw[if_neg (fun h=>h rfl)] at hd
   simp only at hd
   clear HD
   generalize hz:ya8 us=z at *
   have hys:(xs.drop q).length=xs.length-q:=List.length_drop
   have hyb:Bys (xs.drop q):=HXB.out.drop q
   have hpc:=yf1 xs q xs.length (by omega) hq hq
   rw[List.take_of_length_le (by rw[hys];exact Nat.le_refl _)] at hpc
   obtain⟨kq,hkq⟩:=hpc.ex
   have hcells:=fun(A6:Option Addr) (c6:Nat) (w6:World) (hC:Kd.C (Kd.int .u8) w6 A6 (xs.drop q).length (xs.drop q)) (hc6:(xs.drop q).length≤c6)=>yqc HFIT.out A6 c6 (xs.drop q) z w6 hC hc6 hyb (by omega) (by omega)
   have hco:=yj5 HFIT.out (xs.drop q) z hyb
   have hcb:=ykk hyb HFIT.out (n:=z)
   generalize ybi kind x (xs.drop q) z=R at *
   obtain⟨vs,ev⟩:=R
   simp only at hd hcells hco hcb
   generalize xs.drop q=ys at *
   have HYS:=Lib.hid hys;have HCE:=Lib.hid hcells;have HCO:=Lib.hid hco;have HCB:=Lib.hid hcb;have HKQ:=Lib.hid hkq;have HD2:=Lib.hid hd;have HZ:=Lib.hid hz
   clear hys hcells hco hcb hkq hd hz hpc hyb
   go_wp2
   go_region_held3 (fun w'=>w'.cell? ad=some (.int .u8 x)) (exact HX5.out _ (by repeat (first|exact hbw2|exact hbw|exact Below.refl _ _|apply yab|apply yam))) (first
    | (go_at_call 43;refine(yag.calls kq (some ad) c2 xs q (xs.length:Int) ys _ (Kd.C_below HCX.out (by repeat (first|exact Below.refl _ _|apply yab|apply yam))) hc2 HKQ.out).mono ?_;rintro e w6 ⟨v6,rfl,hR6,hb6⟩;obtain⟨A6,c6,rfl,hc6,hC6⟩:=Kd.R_reads hR6;have hbw:Below wr.heap.size wr w6:=(fun(hx:Below wr.heap.size wr _)=>yae hx hx.size hb6) (by repeat (first|exact Below.refl _ _|apply yab|apply yam)))
    | (go_at_call 46;refine(HCE.out A6 c6 _ (by first|exact hC6|exact Kd.C_drew hC6|exact Kd.C_drewN hC6 _) hc6).mono ?_;rintro e w7 ⟨v7,rfl,hb7,hCB7⟩;have hbw2:Below wr.heap.size wr w7:=(fun(hx:Below wr.heap.size wr _)=>yae hx hx.size hb7) (by repeat (first|exact hbw|apply yab|apply yam));have hCB8:=fun h=>CelB.lower (hCB7 h) (Below.size (show Below wr.heap.size wr _ from by repeat (first|exact hbw|apply yab|apply yam)))))
   have HB7:=Lib.hid (yae HB5.out HB5.out.size hbw2);have HCU:=Lib.hid (Kd.C_below HC5.out hbw2)
   have HCB8:=Lib.hid (fun h=>(hCB8 h).lower HB5.out.size)
   clear hbw hbw2 hb6 hb7 hCB7 hCB8 hR6 hC6 HX5 HCX HC5 HKQ HCE HYS HB5
   by_cases hev:ev=0
   rotate_left
   ·have hd:=HD2.out
    rw[if_pos hev] at hd
    injection hd with hd1 hd2
    subst hd1;subst hd2
    have heb:(ev == 0)=false:=by simpa using hev
    have HE:=Lib.hid hev
    clear hev HD2 HCB HCO HCB8
    go_wp2
    go_ret2
    exact yby.none HE.out HB7.out
   have hd:=HD2.out
   rw[if_neg (fun h=>h hev)] at hd
   obtain⟨hvl,_⟩:=HCB.out hev
   have hok:=yn4 (us:=us) (HCO.out hev)
   obtain⟨ts,hts,hT⟩:=HCB8.out hev
   subst hev
   obtain⟨rows,hrows⟩:∃ rows,rows=ts.map OwnT.row:=⟨_,rfl⟩
   have hTr:=hT.row
   rw[← hrows] at hTr
   obtain⟨A7,c7,rfl,hc7,hC7⟩:=Kd.R_reads hTr
   have hrl:rows.length=z:=by rw[hrows,List.length_map,← hvl,← hts,List.length_map]
   have HRW:=Lib.hid hrows;have HRL:=Lib.hid hrl;have HT:=Lib.hid hT;have HC7:=Lib.hid hC7;have HTS:=Lib.hid hts;have HD3:=Lib.hid hd;have HOK:=Lib.hid hok
   clear hrows hrl hTr hT hC7 hts hd hok hvl HD2 HCB HCO HCB8
   go_upto_region 30 with (fail)
   have h17:=yje (Kd.raw 3) w7 53 w7.heap.size (Nat.le_refl _)
   have HB8:=Lib.hid (yaj (Below.refl w7.heap.size w7) (.cells #[] 53));have H17:=Lib.hid h17
   clear h17
   generalize w7.alloc (.cells #[] 53)=w8 at *
   go_wp2
   go_loopw [17,18,19] (fun v17 v18 vi wq=>∃ i:Nat,i≤us.length∧vi=.int .i64 i∧v18=.int .i64 ((ya8 (us.take i):Nat):Int)∧RowKit.Hid (Kd.R (Kd.raw 3) 53 wq w7.heap.size (fun _=>True) v17 (ycr yem.row (us.take i) rows))∧RowKit.Hid (Below w7.heap.size w7 wq)) (fun _ _ vi _=>us.length-(intOf vi).toNat)
   case atStart=>exact⟨0,Nat.zero_le _,rfl,rfl,Lib.hid (by rw[List.take_zero];exact H17.out),HB8⟩
   case round =>
    clear H17 HB8
    obtain⟨i,hi9,rfl,rfl,HR,HB⟩:=hrel
    obtain⟨A17,c17,rfl⟩:=Kd.R_slice HR.out
    have hml:(ycr yem.row (us.take i) rows).length=i:=by rw[yh6,List.length_take];omega
    have hzi:ya8 (us.take i)≤4096:=Nat.le_trans List.count_le_length (by rw[List.length_take];omega)
    rw[hml] at HR ⊢
    by_cases hlt:i<us.length
    ·obtain⟨ad1,rfl,hx⟩:=Kd.at_int (Kd.C_below HCU.out HB.out) (i:Int) (by omega) (by omega)
     rw[ybj hlt,Int.toNat_natCast] at hx
     have hsn:=yht (us.take i) us[i]
     have hmn:=yi8 yem.row us[i] (us.take i) rows (fun x hx=>HU.out x (List.mem_of_mem_take hx))
     rw[ybd us i hlt] at hsn hmn
     have h5:ya8 (us.take (i+1))≤ya8 us:=(List.take_sublist (i+1) us).count_le 0
     rw[HZ.out,← HRL.out] at h5
     rcases HU.out us[i] (List.getElem_mem hlt) with h0|h0
     ·rw[h0] at hx hsn hmn
      rw[if_pos rfl] at hsn
      rw[if_neg (by decide)] at hmn
      rw[hsn] at h5
      have HSN:=Lib.hid hsn;have HLT:=Lib.hid hlt
      clear hsn hlt h0
      generalize ya8 (us.take i)=k9 at *
      generalize ycr yem.row (us.take i) rows=mg at *
      have htl:ts.length=rows.length:=by rw[HRW.out,List.length_map]
      obtain⟨t9,ht9⟩:∃ t9,ts[k9]?=some t9:=⟨_,List.getElem?_eq_getElem (by omega)⟩
      have hr9:rows[k9]?=some t9.row:=by rw[HRW.out,List.getElem?_map,ht9];rfl
      obtain⟨A9,c9,hu9,_,_⟩:=(HT.out.each t9 (List.mem_of_getElem? ht9)).reads
      have hrow:t9.row=[.bool t9.c.f0,.int .i64 t9.c.f1,.slice A9 t9.c.f2.length c9]:=by unfold OwnT.row celV;rw[hu9]
      have hh:(rows.drop k9).headD yem.row=t9.row:=by
       obtain⟨h1,h2⟩:=List.getElem?_eq_some_iff.1 hr9
       rw[List.drop_eq_getElem_cons h1,List.headD_cons,h2]
      rw[hh,hrow] at hmn
      rw[hrow] at hr9
      obtain⟨ad2,hA7,q0,q1,q2⟩:=raw3_at HC7.out (i:=k9) (by omega) hr9
      subst hA7
      replace q0:=(HB.out.cell (World.block_lt_of_cell? w7 _ q0)).trans q0
      replace q1:=(HB.out.cell (World.block_lt_of_cell? w7 _ q1)).trans q1
      replace q2:=(HB.out.cell (World.block_lt_of_cell? w7 _ q2)).trans q2
      have HMN:=Lib.hid hmn;have HML:=Lib.hid hml;have HK9:=Lib.hid h5
      generalize t9.c.f0=t0 at *
      generalize t9.c.f1=t1 at *
      generalize t9.c.f2.length=n9 at *
      have hk9:(k9:Int)<(rows.length:Int):=by omega
      clear hmn hml hr9 hh hrow hu9 ht9 htl h5
      go_wp2_with (at_builtin;refine Kd.R_append (Kd.raw 3) (w0:=w7) w7.heap.size rfl (.tmp 118) (.tmp 123) 22 53 (.agg #[.bool false,.int .i64 0,.slice none 0 0]) 40 rfl Tryz.underlying22 ygj rfl (by decide) (by decide) _ mg [.bool t0,.int .i64 t1,.slice A9 n9 c9] [.bool t0,.int .i64 t1,.slice A9 n9 c9] (fun _=>True) (fun _=>False) rfl rfl ⟨rfl,rfl,row3_one t0 t1 A9 n9 c9⟩ (fun _ hk=>hk.elim) (fun _ _=>trivial) HR.out HB.out HB.out.size (by have:=HML.out;have:=HLT.out;omega) ?_;intro v1 wn hRn hbn hgn hatn;have HRN:=Lib.hid hRn;have HBN:=Lib.hid hbn;obtain⟨An,cn,rfl⟩:=Kd.R_slice hRn;clear hRn hbn hgn hatn)
      go_roundw
      case rel=>exact⟨i+1,HLT.out,by go_num,by rw[HSN.out];go_num,Lib.hid (by have h:=HRN.out;rw[List.length_append] at h;rw[HMN.out];exact h),HBN⟩
      case measure=>have:=HLT.out;simp [intOf];omega
     ·rw[h0] at hx hsn hmn
      rw[if_neg (by decide),Nat.add_zero] at hsn
      rw[if_pos rfl] at hmn
      have HSN:=Lib.hid hsn;have HLT:=Lib.hid hlt;have HMN:=Lib.hid hmn;have HML:=Lib.hid hml
      clear hsn hlt h0 hmn hml h5
      generalize ya8 (us.take i)=k9 at *
      generalize ycr yem.row (us.take i) rows=mg at *
      go_wp2_with (at_builtin;refine Kd.R_append (Kd.raw 3) (w0:=w7) w7.heap.size rfl (.tmp 114) (.tmp 116) 22 53 (.agg #[.bool false,.int .i64 0,.slice none 0 0]) 40 rfl Tryz.underlying22 ygj rfl (by decide) (by decide) _ mg yem.row yem.row (fun _=>True) (fun _=>False) rfl rfl ⟨rfl,rfl,yp2⟩ (fun _ hk=>hk.elim) (fun _ _=>trivial) HR.out HB.out HB.out.size (by have:=HML.out;have:=HLT.out;omega) ?_;intro v1 wn hRn hbn hgn hatn;have HRN:=Lib.hid hRn;have HBN:=Lib.hid hbn;obtain⟨An,cn,rfl⟩:=Kd.R_slice hRn;clear hRn hbn hgn hatn)
      go_roundw
      case rel=>exact⟨i+1,HLT.out,by go_num,by rw[HSN.out];rfl,Lib.hid (by have h:=HRN.out;rw[List.length_append] at h;rw[HMN.out];exact h),HBN⟩
      case measure=>have:=HLT.out;simp [intOf];omega
    ·obtain rfl:i=us.length:=by omega
     rw[List.take_length] at HR
     have hr9:=HR.out
     rw[HRW.out] at hr9
     have hCB:=HT.out.merge HB.out (Kd.R_lower hr9 HB7.out.size)
     rw[HTS.out] at hCB
     obtain⟨Ao,co,hvo,hco9,hCo⟩:=hCB.reads
     injection hvo with ev1 ev2 ev3
     subst ev1 ev3
     obtain⟨kc,hkc⟩:=(yqr (kind:=kind) (cs:=yc4 us vs) (by rw[← ev2];omega) (fun c hc=>(HOK.out c hc).2.2)).ex
     have hck:=yb0.calls kc kind A17 c17 (yc4 us vs) _ wr hCo hco9 hkc
     rw[← ev2] at hck
     have hX:=HD3.out
     have HBQ:=Lib.hid (yae HB7.out HB7.out.size HB.out);have HCL2:=Lib.hid hCB
     clear hr9 hCB hCo hco9 ev2 hkc HD3 HR HRW HTS HT HC7 HOK hlt hml
     generalize yc4 us vs=cs at *
     generalize yc0 kind cs=ech at *
     have HCK:=Lib.hid hck
     clear hck
     by_cases hch:ech=0
     ·rw[if_neg (fun h=>h hch)] at hX
      injection hX with hX1 hX2
      subst hX1;subst hX2;subst hch
      go_wp2_with (go_at_call 33;refine HCK.out.mono ?_;rintro e w9 ⟨rfl,hb9⟩)
      go_ret2
      exact⟨.slice A17 us.length c17,rfl,yae HBQ.out HBQ.out.size hb9,fun _=>HCL2.out.below hb9,fun h=>absurd rfl h⟩
     ·rw[if_pos hch] at hX
      injection hX with hX1 hX2
      subst hX1;subst hX2
      have hchb:(ech == 0)=false:=by simpa using hch
      have HE:=Lib.hid hch
      clear hch
      go_wp2_with (go_at_call 33;refine HCK.out.mono ?_;rintro e w9 ⟨rfl,hb9⟩)
      go_ret2
      exact yby.none HE.out (yae HBQ.out HBQ.out.size hb9)
theorem yps (kind:Int) (A:Option Addr) (c:Nat) (b:List Int) (w:World) (h:Kd.C (Kd.int .u8) w A b.length b) (hc:b.length≤c) (hb:Bys b) (hl:b.length≤140737488351232) :
  Calls Tryz.prog 20 #[.int .i64 kind,.slice A b.length c] w (yby w (ydx kind b).1 (ydx kind b).2):=by
 unfold ydx
 by_cases hk:kind<1∨8<kind
 ·rw[if_pos hk]
  clear h hb
  rcases hk with hk|hk
  ·have hd:decide (kind<1)=true:=decide_eq_true hk
   go_enter Tryz.func20,Tryz.ntmps20
   go_wp2
   go_ret2
   exact yby.none (by decide) (Below.refl _ _)
  ·have hk1:¬ kind<1:=by omega
   have hd:decide (kind<1)=false:=decide_eq_false hk1
   have hd2:decide (8<kind)=true:=decide_eq_true hk
   go_enter Tryz.func20,Tryz.ntmps20
   go_wp2
   go_ret2
   exact yby.none (by decide) (Below.refl _ _)
 rw[if_neg hk]
 have hgd1:decide (kind<1)=false:=decide_eq_false (fun h=>hk (.inl h))
 have hgd2:decide (8<kind)=false:=decide_eq_false (fun h=>hk (.inr h))
 by_cases h65:65000<b.length
 ·rw[if_pos h65]
  have hi:(65000:Int)<(b.length:Int):=by omega
  clear h hb hk
  go_enter Tryz.func20,Tryz.ntmps20
  go_wp2
  go_ret2
  exact yby.none (by decide) (Below.refl _ _)
 rw[if_neg h65]
 by_cases hs:yc9 b=true
 ·rw[if_neg (show ¬ yc9 b=false by rw[hs];decide)]
  exact yqg kind A c b w h hc hb ⟨by omega,by omega⟩ (by omega) hs _ _ rfl
 have hsf:yc9 b=false:=by simpa using hs
 rw[if_pos hsf]
 obtain⟨ks,hks⟩:=(ymc hb (by omega)).ex
 rw[hsf] at hks
 have hsl:=yeo.calls ks A c b false w h hc hks
 have HS:=Lib.hid hsl
 have hbl:decide ((65000:Int)<(b.length:Int))=false:=decide_eq_false (by omega)
 clear h hb hk hsl hks hs hsf
 go_enter Tryz.func20,Tryz.ntmps20
 go_wp2_with (go_at_call 42;refine(HS.out).mono ?_;rintro e w1 ⟨rfl,hb1⟩)
 go_ret2
 exact yby.none (by decide) hb1
theorem CelT.cell {w:World} {base:Nat} {v:Value} {ts:List OwnT} (h:CelT w base v ts) {i:Nat} (hi:i<ts.length):∃ ad c,v=.slice (some ad) ts.length c∧w.cell? ⟨(ad.add (i*3)).block,(ad.add (i*3)).off+2,none⟩=some ts[i].u:=by
 obtain⟨A,c,rfl,hc,hC⟩:=Kd.R_reads h.row
 rw[List.length_map] at hC ⊢
 obtain⟨ad,hA,_,_,q2⟩:=raw3_at hC hi (a:=.bool ts[i].c.f0) (b:=.int .i64 ts[i].c.f1) (c:=ts[i].u) (by rw[List.getElem?_map,List.getElem?_eq_getElem hi];rfl)
 subst hA
 exact⟨ad,c,rfl,q2⟩
theorem raw1_own {W:World} {e base:Nat} {v:Value} {vs:List Value} (h:Kd.R (Kd.raw 1) e W base (fun _=>True) v (vs.map fun u=>[u])):W.ownsRow base e 1 v vs.length vs:=by
 obtain⟨hok,inner,ho,hr⟩:=h
 have hin:inner=vs:=by
  apply List.ext_getElem (by have:=hr.1;rw[List.length_map,show(Kd.raw 1).sz=1 from rfl,Nat.mul_one] at this;exact this)
  intro j h1 h2
  have h3:=(hr.2 j [vs[j]] (by rw[List.getElem?_map,List.getElem?_eq_getElem h2];rfl)).1
  have h4:(inner.drop (j*1)).take 1=[inner[j]]:=by rw[Nat.mul_one,List.drop_eq_getElem_cons h1];rfl
  have h5:[inner[j]]=[vs[j]]:=by rw[← h4];exact h3
  injection h5
 rw[List.length_map,hin] at ho
 exact ho
theorem ymf (base B:Nat) (v:Value) (ts:List OwnT) (w:World) (hT:CelT w base v ts) (hB:∀ t∈ts,∀ g,t.og=some g→g<B) (hbase:base≤w.heap.size) (hl:ts.length≤4096) :
  Calls Tryz.prog 22 #[v] w fun e w'=>∃ v',e=.returned v'∧Below w.heap.size w w'∧EntX w' base B v' (ts.map (·.u)) (ts.map (·.og)) (ts.map fun t=>t.c.f2):=by
 obtain⟨A0,c0,rfl⟩:=hT.slice
 have HT:=Lib.hid hT
 clear hT
 go_enter Tryz.func22,Tryz.ntmps22
 go_upto_region 2 with (fail)
 have h3:=yje (Kd.raw 1) w 25 w.heap.size (Nat.le_refl _)
 have HB1:=Lib.hid (yaj (Below.refl w.heap.size w) (.cells #[] 25));have H3:=Lib.hid h3
 clear h3
 generalize w.alloc (.cells #[] 25)=w1 at *
 go_wp2
 go_loopw [3,4] (fun v3 vi wq=>∃ i:Nat,i≤ts.length∧vi=.int .i64 i∧RowKit.Hid (Kd.R (Kd.raw 1) 25 wq w.heap.size (fun _=>True) v3 ((ts.take i).map fun t=>[t.u]))∧RowKit.Hid (Below w.heap.size w wq)) (fun _ vi _=>ts.length-(intOf vi).toNat)
 case atStart=>exact⟨0,Nat.zero_le _,rfl,Lib.hid (by rw[List.take_zero];exact H3.out),HB1⟩
 case round =>
  clear H3 HB1
  obtain⟨i,hi9,rfl,HR,HBR⟩:=hrel
  obtain⟨A3,c3,rfl⟩:=Kd.R_slice HR.out
  have htk:((ts.take i).map fun t=>[t.u]).length=i:=by rw[List.length_map,List.length_take];omega
  rw[htk] at HR ⊢
  by_cases hlt:i<ts.length
  ·obtain⟨ad,c9,hv9,hx0⟩:=HT.out.cell hlt
   injection hv9 with e1 e2 e3
   subst e1
   obtain⟨A5,c5,hu5,hz1,hz2⟩:=(HT.out.each ts[i] (List.getElem_mem hlt)).reads
   clear hz1 hz2
   rw[hu5] at hx0
   have hx:=(HBR.out.cell (World.block_lt_of_cell? w _ hx0)).trans hx0
   have hsn:(ts.take (i+1)).map (fun t=>[t.u])=(ts.take i).map (fun t=>[t.u])++[[Value.slice A5 ts[i].c.f2.length c5]]:=by rw[← ybd ts i hlt,List.map_append,← hu5];rfl
   have HSN:=Lib.hid hsn;have HLT:=Lib.hid hlt;have HTK:=Lib.hid htk
   generalize ts[i].c.f2.length=n5 at *
   clear hsn hlt htk hx0 hu5 e2 e3
   generalize (ts.take i).map (fun t=>[t.u])=us at *
   go_wp2_with (at_builtin;refine Kd.R_append (Kd.raw 1) (w0:=w) w.heap.size rfl (.tmp 12) (.tmp 18) 46 25 (.slice none 0 0) 24 rfl Tryz.underlying46 ygm rfl (by decide) (by decide) _ us [.slice A5 n5 c5] [.slice A5 n5 c5] (fun _=>True) (fun _=>False) rfl rfl ⟨rfl,rfl,ynh A5 n5 c5⟩ (fun _ hk=>hk.elim) (fun _ _=>trivial) HR.out HBR.out HBR.out.size (by have:=HTK.out;have:=HLT.out;omega) ?_;intro v7 w7 hR7 hb7 hg7 hat7;have HR7:=Lib.hid hR7;have HB7:=Lib.hid hb7;obtain⟨A7,c7,rfl⟩:=Kd.R_slice hR7;clear hR7 hb7 hg7 hat7)
   go_roundw
   case rel=>exact⟨i+1,HLT.out,by go_num,Lib.hid (by have h:=HR7.out;rw[List.length_append] at h;rw[HSN.out];exact h),HB7⟩
   case measure=>have:=HLT.out;simp [intOf];omega
  ·obtain rfl:i=ts.length:=by omega
   rw[List.take_length] at HR
   clear hlt htk
   go_wp2
   go_ret
   have hR:=HR.out
   have ho:=raw1_own (vs:=ts.map (·.u)) (v:=.slice A3 ts.length c3) (by rw[List.map_map];exact Kd.R_lower hR hbase)
   rw[List.length_map] at ho
   refine⟨_,rfl,HBR.out,?_,?_,?_,?_,?_⟩
   ·rw[List.length_map]
    exact ho
   ·rw[List.length_map,List.length_map]
   ·intro i j g hij hi hj
    rw[List.getElem?_map,Option.map_eq_some_iff] at hi hj
    obtain⟨a,ha,e1⟩:=hi
    obtain⟨b,hb,e2⟩:=hj
    obtain⟨hil,rfl⟩:=List.getElem?_eq_some_iff.1 ha
    obtain⟨hjl,rfl⟩:=List.getElem?_eq_some_iff.1 hb
    exact List.pairwise_iff_getElem.1 HT.out.apart i j hil hjl hij g e1 e2
   ·intro i g hi
    rw[List.getElem?_map,Option.map_eq_some_iff] at hi
    obtain⟨a,ha,e1⟩:=hi
    exact hB a (List.mem_of_getElem? ha) g e1
   ·intro i hi
    rw[List.length_map] at hi
    refine⟨ts[i].u,ts[i].og,by rw[List.getElem?_map,List.getElem?_eq_getElem hi];rfl,by rw[List.getElem?_map,List.getElem?_eq_getElem hi];rfl,?_⟩
    rw[List.getElem_map]
    have hB9:=HT.out.each ts[i] (List.getElem_mem hi)
    exact hB9.keep (fun g hg=>HBR.out.block g (hB9.lt g hg))
end Go.Proofs.YteeikgjjgfdjgaaGreat.PK
end
