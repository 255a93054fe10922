/-
  Parts of the proof: Ya, Yb, Yc, Za, Zb, Zc, Zd, Xs, Xu.
-/
import Derived.Test.YteeikgjjgfdjgaaGreatU32
set_option maxHeartbeats 4000000
set_option maxRecDepth 100000
section
namespace Go.Proofs.YteeikgjjgfdjgaaGreat.PK
open Go.RowKit YteeikgjjgfdjgaaGreatW.PrintWords YteeikgjjgfdjgaaGreatW.PrintLast YteeikgjjgfdjgaaGreatW.PrintMore
set_option linter.unusedVariables false
set_option linter.unusedSimpArgs false
theorem CelT.below {w w':World} {base:Nat} {v:Value} {ts:List OwnT} (h:CelT w base v ts) (hb:Below w.heap.size w w'):CelT w' base v ts:=h.keep (fun k _ hk=>hb.block k hk)
theorem CelT.og_lt {w:World} {base:Nat} {v:Value} {ts:List OwnT} (h:CelT w base v ts) {t:OwnT} (ht:t∈ts) {g:Nat} (hg:t.og=some g):g<w.heap.size:=(h.each t ht).lt g hg
theorem CelT.snoc {W0 W1 W2:World} {base:Nat} {v v2:Value} {ts:List OwnT} {t:OwnT} (h:CelT W0 base v ts) (h01:∀ g,g<W0.heap.size→some g≠v.ownBlock→W2.heap[g]?=W0.heap[g]?) (hv:∀ t∈ts,∀ g,t.og=some g→some g≠v.ownBlock)
  (hn:∀ g,t.og=some g→W0.heap.size≤g) (ht:Byt W2 base t.og t.u t.c.f2) (hR:Kd.R (Kd.raw 3) 53 W2 base (fun _=>True) v2 ((ts++[t]).map OwnT.row)):CelT W2 base v2 (ts++[t]):=by
 refine⟨fun x hx=>?_,List.pairwise_append.2 ⟨h.apart,by simp,fun a ha b hb g hg hg2=>?_⟩,hR⟩
 ·rcases List.mem_append.1 hx with hx|hx
  ·exact(h.each x hx).keep (fun g hg=>h01 g (h.og_lt hx hg) (hv x hx g hg))
  ·obtain rfl:=List.mem_singleton.1 hx
   exact ht
 ·obtain rfl:=List.mem_singleton.1 hb
  have h1:=h.og_lt ha hg
  have h2:=hn g hg2
  omega
theorem CelT.nil (w:World) (base:Nat):CelT w base (.slice none 0 0) []:=⟨fun t ht=>(by cases ht),List.Pairwise.nil,Kd.R_nil _ _ _ _ _⟩
theorem CelT.slice {w:World} {base:Nat} {v:Value} {ts:List OwnT} (h:CelT w base v ts):∃ A c,v=.slice A ts.length c:=by
 obtain⟨A,c,e,_⟩:=h.reads
 exact⟨A,c,e⟩
theorem CelT.lower {w:World} {base base':Nat} {v:Value} {ts:List OwnT} (h:CelT w base v ts) (hb:base'≤base):CelT w base' v ts:=⟨fun t ht=>(h.each t ht).lower hb,h.apart,Kd.R_lower h.row hb⟩
theorem CelT.push {W w1:World} {base:Nat} {v v1:Value} {ts:List OwnT} {t:OwnT} (h:CelT W base v ts) (hg:W.grownBy w1 v.ownBlock) (hn:∀ g,t.og=some g→∀ x∈ts,x.og≠some g) (ht:Byt W base t.og t.u t.c.f2) (hR:Kd.R (Kd.raw 3) 53 w1 base (fun _=>True) v1 (ts.map OwnT.row++[t.row])):CelT w1 base v1 (ts++[t]):=by
 have hrow:∀ (og:Option Nat) (u:Value) (xs:List Int),Byt W base og u xs→Byt w1 base og u xs:=fun og u xs hB=>hB.keep (fun g hgo=>by
  have hne:some g≠v.ownBlock:=by
   obtain⟨c1,m1,t1⟩:=hB.typed g hgo
   intro e
   obtain⟨inner,ho⟩:=Kd.R_own h.row
   obtain⟨c2,t2⟩:=ydt ho g e.symm
   rw[t1] at t2
   injection t2 with t2
   injection t2 with _ t2 _
   exact absurd t2 (by decide)
  exact hg.block g (hB.lt g hgo) hne)
 refine⟨fun x hx=>?_,List.pairwise_append.2 ⟨h.apart,by simp,fun a ha b hb g hga hgb=>?_⟩,by rw[List.map_append];exact hR⟩
 ·rcases List.mem_append.1 hx with hx|hx
  ·exact hrow _ _ _ (h.each x hx)
  ·obtain rfl:=List.mem_singleton.1 hx
   exact hrow _ _ _ ht
 ·obtain rfl:=List.mem_singleton.1 hb
  exact hn g hgb a ha hga
theorem celV_one (y:Int):∀ u∈[Value.bool false,.int .i64 y,.slice none 0 0],u.oneCell'=true:=by
 intro u hu
 simp only[List.mem_cons,List.not_mem_nil,or_false] at hu
 rcases hu with rfl|rfl|rfl <;> rfl
theorem yo0 (A:Option Addr) (n c:Nat):∀ u∈[Value.bool false,.int .i64 0,.slice A n c],u.oneCell'=true:=by
 intro u hu
 simp only[List.mem_cons,List.not_mem_nil,or_false] at hu
 rcases hu with rfl|rfl|rfl <;> rfl
theorem ynw (kind:Int) (A:Option Addr) (c:Nat) (b:List Int) (n:Nat) (w:World) (hk:yd0 kind) (h:Kd.C (Kd.int .u8) w A b.length b) (hc:b.length≤c) (hb:Bys b) (hl:b.length≤65000) (hn:n≤4096) :
  Calls Tryz.prog 65 #[.int .i64 kind,.slice A b.length c,.int .i64 n] w (yex w (ygv kind b n).1 (ygv kind b n).2):=by
 have hnum:=yhn hk
 have hgp:=fun(p:Nat) (hp:p≤b.length)=>yfr h hc hb (by omega) hp
 obtain⟨X,hX⟩:∃ X,ydk kind b n 0 []=X:=⟨_,rfl⟩
 have hRR:ygv kind b n=if X.2.2≠0 then ([],X.2.2) else if X.2.1<b.length then ([],3) else (X.1,0):=by unfold ygv;rw[hX]
 rw[hRR]
 generalize hRR2:(if X.2.2≠0 then (([]:List Cel),X.2.2) else if X.2.1<b.length then ([],3) else (X.1,0))=RR
 have HRR:=Lib.hid hRR2;have HX:=Lib.hid hX;have HGP:=Lib.hid hgp;have HBY:=Lib.hid hb;have HC:=Lib.hid h;have HN:=Lib.hid hnum
 clear hRR hRR2 hX hgp hb h hnum
 go_enter Tryz.func65,Tryz.ntmps65
 go_wp2
 go_loopw [8,9,14] (fun v8 v9 vi wq=>∃ (i p:Nat) (ts:List OwnT),i≤n∧vi=.int .i64 i∧v9=.int .i64 p∧p≤b.length∧ts.length=i∧RowKit.Hid (ydk kind b (n-i) p (ts.map (·.c))=X)∧RowKit.Hid (CelT wq w.heap.size v8 ts)∧RowKit.Hid (Below w.heap.size w wq)) (fun _ _ vi _=>n-(intOf vi).toNat)
 case atStart=>exact⟨0,0,[],Nat.zero_le _,rfl,rfl,Nat.zero_le _,rfl,HX,Lib.hid (CelT.nil _ _),Lib.hid (Below.refl _ _)⟩
 case round =>
  obtain⟨i,p,ts,hi9,rfl,rfl,hp,htl,hXi,HT,HBR⟩:=hrel
  obtain⟨A8,c8,rfl⟩:=HT.out.slice
  by_cases hlt:i<n
  ·obtain⟨m,hm⟩:∃ m,n-i=m+1:=⟨n-i-1,by omega⟩
   have hm2:n-(i+1)=m:=by omega
   have hX1:=hXi.out
   rw[hm] at hX1
   unfold ydk at hX1
   have hg1:=HGP.out p hp
   have hl1:=fun h=>yeh HBY.out (p:=p) h
   have hs1:=fun h=>ye4 (p:=p) HBY.out h
   generalize vget b p=r1 at *
   obtain⟨u,q,e1⟩:=r1
   simp only at hg1 hl1 hs1 hX1
   have HG1:=Lib.hid hg1
   clear hg1 hXi
   by_cases he1:e1=0
   ·subst he1
    rw[if_neg (by decide)] at hX1
    obtain⟨hq,_⟩:=hl1 rfl
    have hu64:=hs1 rfl
    clear hl1 hs1
    by_cases hk6:kind≤6
    ·rw[if_pos hk6] at hX1
     rw[decide_eq_true hk6] at HN
     have hun:=yjt hu64
     generalize ydh u=y at *
     have HU:=Lib.hid hun;have HXI:=Lib.hid hX1;have HM:=Lib.hid hm2;have HLT:=Lib.hid hlt;have HTL:=Lib.hid htl
     have hrl:(ts.map OwnT.row).length=i:=by rw[List.length_map,htl]
     have HRL:=Lib.hid hrl
     clear hun hX1 hm hm2 hrl htl
     go_wp2_with (first
      | (go_at_call 39;refine(HG1.out _ HBR.out).mono ?_;rintro e w4 ⟨rfl,⟨m4,rfl⟩⟩)
      | (go_at_call 50;refine(ybu.calls kind true _ HN.out).mono ?_;rintro e w5 ⟨rfl,⟨m5,rfl⟩⟩)
      | (go_at_call 105;refine(yfj.calls _ _ _ HU.out).mono ?_;rintro e w6 ⟨rfl,⟨m6,rfl⟩⟩)
      | (at_builtin;refine Kd.R_append (Kd.raw 3) (w0:=w) w.heap.size rfl (.tmp 30) (.tmp 34) 22 53 (.agg #[.bool false,.int .i64 0,.slice none 0 0]) 40 rfl Tryz.underlying22 yi7 rfl (by decide) (by decide) _ (ts.map OwnT.row) [.bool false,.int .i64 y,.slice none 0 0] [.bool false,.int .i64 y,.slice none 0 0] (fun _=>True) (fun _=>False) rfl rfl ⟨rfl,rfl,celV_one y⟩ (fun _ hk=>hk.elim) (fun _ _=>trivial) (HT.out.below (by repeat (first|exact Below.refl _ _|apply yab))).row (yab HBR.out _) (yab HBR.out _).size (by have:=HRL.out;have:=HLT.out;omega) ?_;intro v7 w7 hR7 hb7 hg7 hat7;have hT7:=(HT.out.below (by repeat (first|exact Below.refl _ _|apply yab))).push (t:=⟨ye1 y,.slice none 0 0,none⟩) hg7 (fun g hg=>(by cases hg)) (.inl ⟨rfl,rfl,rfl⟩) hR7;have HT7:=Lib.hid hT7;have HB7:=Lib.hid hb7;obtain⟨A7,c7,rfl⟩:=hT7.slice;clear hR7 hb7 hg7 hat7 hT7))
     go_roundw
     case rel=>exact⟨i+1,q,ts++[⟨ye1 y,.slice none 0 0,none⟩],HLT.out,by go_num,rfl,hq,by rw[List.length_append,HTL.out];rfl,Lib.hid (by rw[HM.out];simpa using HXI.out),Lib.hid (by have h:=HT7.out;rw[List.length_append] at h;exact h),HB7⟩
     case measure=>have:=HLT.out;simp [intOf];omega
    ·rw[if_neg hk6] at hX1
     rw[decide_eq_false hk6] at HN
     by_cases h200:200<u
     ·rw[if_pos h200] at hX1
      have h2i:(200:Int)<(u:Int):=by omega
      have HXI:=Lib.hid hX1
      clear hX1 hm hm2
      go_wp2_with (first
       | (go_at_call 39;refine(HG1.out _ HBR.out).mono ?_;rintro e w4 ⟨rfl,⟨m4,rfl⟩⟩)
       | (go_at_call 50;refine(ybu.calls kind false _ HN.out).mono ?_;rintro e w5 ⟨rfl,⟨m5,rfl⟩⟩))
      go_ret2
      rw[← HRR.out,← HXI.out,if_pos (by decide)]
      exact yex.none (by decide) (by repeat (first|exact HBR.out|apply yab))
     ·rw[if_neg h200] at hX1
      have h2i:decide ((200:Int)<(u:Int))=false:=by simp;omega
      have h2n:u≤200:=by omega
      by_cases hsh:b.length-q<u
      ·rw[if_pos hsh] at hX1
       have h3i:(b.length:Int)-(q:Int)<(u:Int):=by omega
       have HXI:=Lib.hid hX1
       clear hX1 hm hm2
       go_wp2_with (first
        | (go_at_call 39;refine(HG1.out _ HBR.out).mono ?_;rintro e w4 ⟨rfl,⟨m4,rfl⟩⟩)
        | (go_at_call 50;refine(ybu.calls kind false _ HN.out).mono ?_;rintro e w5 ⟨rfl,⟨m5,rfl⟩⟩))
       go_ret2
       rw[← HRR.out,← HXI.out,if_pos (by decide)]
       exact yex.none (by decide) (by repeat (first|exact HBR.out|apply yab))
      ·rw[if_neg hsh] at hX1
       have h3i:decide ((b.length:Int)-(q:Int)<(u:Int))=false:=by simp;omega
       have hqu:q+u≤b.length:=by omega
       obtain⟨B',hcut,hB'⟩:=yir A c b q (q+u) (by omega) hqu hc
       have hsd:(b.take (q+u)).drop q=(b.drop q).take u:=by rw[List.drop_take];congr 1;omega
       rw[show q+u-q=u by omega,hsd] at hB'
       rw[show q+u-q=u by omega,show((q+u:Nat):Int)=(q:Int)+(u:Int) by omega] at hcut
       have hsl:((b.drop q).take u).length=u:=by rw[List.length_take,List.length_drop];omega
       obtain⟨s,hs⟩:∃ s,s=(b.drop q).take u:=⟨_,rfl⟩
       rw[← hs] at hsl hB' hX1
       have hcl:=fun(w2:World) (hb2:Below w.heap.size w w2)=>yix B' (c-q) s w2 (by rw[hsl];exact hB' w2 (Kd.C_below HC.out hb2)) (by omega)
       rw[hsl] at hcl
       have hrl:(ts.map OwnT.row).length=i:=by rw[List.length_map,htl]
       have HRL:=Lib.hid hrl;have HCL:=Lib.hid hcl;have HSL:=Lib.hid hsl
       have HXI:=Lib.hid hX1;have HM:=Lib.hid hm2;have HLT:=Lib.hid hlt;have HTL:=Lib.hid htl
       clear hX1 hm hm2 hrl htl hcl hsl hs hB' hsd
       go_wp2_with (first
        | (go_at_call 39;refine(HG1.out _ HBR.out).mono ?_;rintro e w4 ⟨rfl,⟨m4,rfl⟩⟩)
        | (go_at_call 50;refine(ybu.calls kind false _ HN.out).mono ?_;rintro e w5 ⟨rfl,⟨m5,rfl⟩⟩)
        | (go_at_call 106;refine(HCL.out _ (by repeat (first|exact HBR.out|apply yab))).mono ?_;rintro e w6 ⟨A6,c6,rfl,ho6,hb6⟩;have HT6:=Lib.hid ((HT.out.below (by repeat (first|exact Below.refl _ _|apply yab))).below hb6);have HB6:=Lib.hid ((fun(hx:Below w.heap.size w _)=>yad hx hx.size hb6) (by repeat (first|exact HBR.out|apply yab)));have HO6:=Lib.hid ho6;have HSZ:=Lib.hid ((fun {W5:World} (hx:Below wr.heap.size wr W5) (_:Below W5.heap.size W5 w6)=>hx.size) (by repeat (first|exact Below.refl _ _|apply yab)) hb6);clear ho6 hb6)
        | (at_builtin;refine Kd.R_append (Kd.raw 3) (w0:=w) w.heap.size rfl (.tmp 52) (.tmp 59) 22 53 (.agg #[.bool false,.int .i64 0,.slice none 0 0]) 40 rfl Tryz.underlying22 yi7 rfl (by decide) (by decide) _ (ts.map OwnT.row) [.bool false,.int .i64 0,.slice A6 u c6] [.bool false,.int .i64 0,.slice A6 u c6] (fun _=>True) (fun _=>False) rfl rfl ⟨rfl,rfl,yo0 A6 u c6⟩ (fun _ hk=>hk.elim) (fun _ _=>trivial) HT6.out.row HB6.out HB6.out.size (by have:=HRL.out;have:=HLT.out;omega) ?_;intro v7 w7 hR7 hb7 hg7 hat7;have hT7:=HT6.out.push (t:=⟨yd2 s,.slice A6 u c6,(Value.slice A6 u c6).ownBlock⟩) hg7 (fun g hg x hx hxg=>(by have h1:=HT.out.og_lt hx hxg;have h2:=yd1 HO6.out g hg;have h3:=HSZ.out;omega)) ((Byt.of_own HO6.out).lower (Nat.le_trans HBR.out.size HSZ.out)) hR7;have HT7:=Lib.hid hT7;have HB7:=Lib.hid hb7;obtain⟨A7,c7,rfl⟩:=hT7.slice;clear hR7 hb7 hg7 hat7 hT7))
       go_roundw
       case rel=>exact⟨i+1,q+u,ts++[⟨yd2 s,.slice A6 u c6,(Value.slice A6 u c6).ownBlock⟩],HLT.out,by go_num,by go_num,hqu,by rw[List.length_append,HTL.out];rfl,Lib.hid (by rw[HM.out];simpa using HXI.out),Lib.hid (by have h:=HT7.out;rw[List.length_append] at h;exact h),HB7⟩
       case measure=>have:=HLT.out;simp [intOf];omega
   ·rw[if_pos he1] at hX1
    have heb:(e1 == 0)=false:=by simpa using he1
    have HXI:=Lib.hid hX1;have HE1:=Lib.hid he1
    clear hX1 hl1 hs1 hm hm2 he1
    go_wp2_with (go_at_call 39;refine(HG1.out _ HBR.out).mono ?_;rintro e w4 ⟨rfl,⟨m4,rfl⟩⟩)
    go_ret2
    rw[← HRR.out,← HXI.out,if_pos HE1.out]
    exact yex.none HE1.out (yab HBR.out _)
  ·obtain rfl:i=n:=by omega
   have hX1:=hXi.out
   rw[Nat.sub_self] at hX1
   unfold ydk at hX1
   have HXI:=Lib.hid hX1
   clear hX1 hXi
   by_cases htr:p<b.length
   ·have hti:(p:Int)<(b.length:Int):=by omega
    go_wp2
    go_ret2
    rw[← HRR.out,← HXI.out,if_neg (by simp),if_pos htr]
    exact yex.none (by decide) HBR.out
   ·have htd:decide ((p:Int)<(b.length:Int))=false:=by simp;omega
    go_wp2
    go_ret2
    rw[← HRR.out,← HXI.out,if_neg (by simp),if_neg htr]
    exact⟨_,rfl,HBR.out,fun _=>⟨ts,rfl,HT.out⟩⟩
theorem yki (kind:Int) (b:List Int) (n:Nat):yb6 kind 1 b n=ygv kind b n:=by unfold yb6;rw[if_pos rfl]
theorem ypo {kind:Int} (hk:yd0 kind):yf1 kind 1:=by
 intro A c b n w h hc hb hl hn
 rw[yki]
 have hp:=fun(w2:World) (hb2:Below w.heap.size w w2)=>ynw kind A c b n w2 hk (Kd.C_below h hb2) hc hb hl hn
 have HP:=Lib.hid hp
 clear hp h hb hk
 generalize ygv kind b n=r at *
 obtain⟨cs,er⟩:=r
 go_enter Tryz.func41,Tryz.ntmps41
 go_wp2_with (go_at_call 65;refine(HP.out _ (Below.refl _ _)).mono ?_;rintro e w1 ⟨v1,rfl,hb1,hC1⟩)
 go_ret2
 exact⟨_,rfl,hb1,hC1⟩
theorem yrj {kind:Int} {b:List Int} (hb:Bys b):∀ (n p:Nat) (out:List Cel),(∀ c∈out,yew c)→(ydk kind b n p out).2.2=0→∀ c∈(ydk kind b n p out).1,yew c:=by
 intro n
 induction n with
 | zero=>intro p out ho _;exact ho
 | succ n ih =>
  intro p out ho h
  rw[ydk] at h ⊢
  have hlt:=fun h=>ye4 hb (p:=p) h
  rcases hg:vget b p with ⟨u,q,e⟩
  rw[hg] at h hlt
  simp only at h hlt ⊢
  by_cases he:e=0
  rotate_left
  ·rw[if_pos he] at h;exact absurd h he
  subst he
  rw[if_neg (by simp)] at h ⊢
  by_cases hk:kind≤6
  ·rw[if_pos hk] at h ⊢
   refine ih q _ (fun c hc=>?_) h
   rcases List.mem_append.1 hc with hc|hc
   ·exact ho c hc
   ·obtain rfl:=List.mem_singleton.1 hc
    exact yl4 (yhf (hlt rfl))
  ·rw[if_neg hk] at h ⊢
   by_cases h2:200<u
   ·rw[if_pos h2] at h;exact absurd h (by decide)
   rw[if_neg h2] at h ⊢
   by_cases h3:b.length-q<u
   ·rw[if_pos h3] at h;exact absurd h (by decide)
   rw[if_neg h3] at h ⊢
   refine ih (q+u) _ (fun c hc=>?_) h
   rcases List.mem_append.1 hc with hc|hc
   ·exact ho c hc
   ·obtain rfl:=List.mem_singleton.1 hc
    exact ykl ((hb.drop q).take u) (by rw[List.length_take];omega)
theorem ymw {kind:Int}:yg9 kind 1:=by
 intro b n hb h c hc
 rw[yki] at h hc
 unfold ygv at h hc
 by_cases h1:(ydk kind b n 0 []).2.2=0
 rotate_left
 ·rw[if_pos h1] at h;exact absurd h h1
 rw[if_neg (fun x=>x h1)] at h hc
 by_cases h2:(ydk kind b n 0 []).2.1<b.length
 ·rw[if_pos h2] at h;exact absurd h (by decide)
 rw[if_neg h2] at hc
 exact yrj hb n 0 [] (fun c hc=>by cases hc) h1 c hc
def asT (vs:List Value) (ogs:List (Option Nat)) (es:List (List Int)):List OwnT:=(List.range es.length).map fun i=>⟨yd2 (es.getD i []),vs.getD i undef,ogs.getD i none⟩
theorem yf4 (vs:List Value) (ogs:List (Option Nat)) (es:List (List Int)):(asT vs ogs es).length=es.length:=by simp [asT]
theorem asT_cells (vs:List Value) (ogs:List (Option Nat)) (es:List (List Int)):(asT vs ogs es).map (·.c)=es.map yd2:=by
 apply List.ext_getElem (by simp [asT])
 intro i h1 h2
 simp only[asT,List.getElem_map,List.getElem_range]
 rw[List.length_map] at h2
 rw[List.getD_eq_getElem?_getD,List.getElem?_eq_getElem h2,Option.getD_some]
theorem asT_get {vs:List Value} {ogs:List (Option Nat)} {es:List (List Int)} {i:Nat} (hi:i<es.length) {u:Value} {og:Option Nat} (hu:vs[i]?=some u) (ho:ogs[i]?=some og):(asT vs ogs es)[i]'(by rw[yf4];exact hi)=⟨yd2 es[i],u,og⟩:=by
 simp only[asT,List.getElem_map,List.getElem_range]
 rw[List.getD_eq_getElem?_getD,List.getD_eq_getElem?_getD,List.getD_eq_getElem?_getD,List.getElem?_eq_getElem hi,hu,ho]
 rfl
theorem yn0 (base B:Nat) (v0:Value) (vs:List Value) (ogs:List (Option Nat)) (es:List (List Int)) (er:Int) (w:World) (hE:EntX w base B v0 vs ogs es) (hbase:base≤w.heap.size) (hl:es.length≤4096) :
  Calls Tryz.prog 69 #[v0,.int .i64 er] w fun e w'=>∃ v,e=.returned (.tuple #[v,.int .i64 er])∧Below w.heap.size w w'∧CelT w' base v (asT vs ogs es):=by
 obtain⟨A0,c0,rfl,hc0,hC0⟩:=hE.entB.reads
 have HE:=Lib.hid hE
 clear hE hC0
 go_enter Tryz.func69,Tryz.ntmps69
 go_wp2
 go_loopw [6,11] (fun v6 vi wq=>∃ i:Nat,i≤es.length∧vi=.int .i64 i∧RowKit.Hid (CelT wq base v6 ((asT vs ogs es).take i))∧RowKit.Hid (Kd.R (Kd.raw 3) 53 wq w.heap.size (fun _=>True) v6 (((asT vs ogs es).take i).map OwnT.row))∧RowKit.Hid (Below w.heap.size w wq)) (fun _ vi _=>es.length-(intOf vi).toNat)
 case atStart=>exact⟨0,Nat.zero_le _,rfl,Lib.hid (by rw[List.take_zero];exact CelT.nil _ _),Lib.hid (by rw[List.take_zero];exact Kd.R_nil _ _ _ _ _),Lib.hid (Below.refl _ _)⟩
 case round =>
  obtain⟨i,hi9,rfl,HT,HRW,HBR⟩:=hrel
  obtain⟨A6,c6,rfl⟩:=HT.out.slice
  have htk:((asT vs ogs es).take i).length=i:=by rw[List.length_take,yf4];omega
  by_cases hlt:i<es.length
  ·obtain⟨ad,rfl⟩:∃ ad,A0=some ad:=by
    obtain⟨A',c',he,_,hC⟩:=HE.out.entB.reads
    injection he with he
    subst he
    obtain⟨ad,e,_⟩:=hC.2.2 (by omega)
    exact⟨ad,e⟩
   obtain⟨A',c',og,hvs,hog,hB,hc',hC',hcell⟩:=HE.out.at hlt
   have hx:=(HBR.out.cell (World.block_lt_of_cell? w _ hcell)).trans hcell
   have hti:(asT vs ogs es)[i]'(by rw[yf4];exact hlt)=⟨yd2 es[i],.slice A' es[i].length c',og⟩:=asT_get hlt hvs hog
   have hsn:(asT vs ogs es).take (i+1)=(asT vs ogs es).take i++[⟨yd2 es[i],.slice A' es[i].length c',og⟩]:=by rw[← ybc _ i (by rw[yf4];exact hlt),hti]
   have hfr:∀ g,og=some g→∀ x∈(asT vs ogs es).take i,x.og≠some g:=by
    intro g hg x hx hxg
    obtain⟨j,hj,rfl⟩:=List.mem_iff_getElem.1 hx
    rw[htk] at hj
    obtain⟨u2,og2,hu2,hog2,_⟩:=HE.out.each j (by omega)
    rw[List.getElem_take,asT_get (by omega) hu2 hog2] at hxg
    simp only at hxg
    subst hxg
    exact HE.out.apart j i g hj hog2 (by rw[hog,hg])
   have hBq:Byt wr base og (.slice A' es[i].length c') es[i]:=hB.keep (fun g hg=>HBR.out.block g (hB.lt g hg))
   obtain⟨s,hs⟩:∃ s,s=es[i]:=⟨_,rfl⟩
   rw[← hs] at hx hsn hBq
   obtain⟨sl,hsl⟩:∃ sl,sl=s.length:=⟨_,rfl⟩
   rw[← hsl] at hx hsn hBq
   have HSN:=Lib.hid hsn;have HFR:=Lib.hid hfr;have HBQ:=Lib.hid hBq;have HLT:=Lib.hid hlt
   have hrl:(((asT vs ogs es).take i).map OwnT.row).length=i:=by rw[List.length_map,htk]
   have HRL:=Lib.hid hrl;have HTK:=Lib.hid htk
   clear hs hsl hsn hfr hBq hrl htk hti hcell hC' hB hvs hog hc' hlt
   generalize (asT vs ogs es).take i=ts at *
   go_wp2_with (at_builtin;refine Kd.R_append (Kd.raw 3) (w0:=w) w.heap.size rfl (.tmp 15) (.tmp 18) 22 53 (.agg #[.bool false,.int .i64 0,.slice none 0 0]) 40 rfl Tryz.underlying22 yi7 rfl (by decide) (by decide) _ (ts.map OwnT.row) [.bool false,.int .i64 0,.slice A' sl c'] [.bool false,.int .i64 0,.slice A' sl c'] (fun _=>True) (fun _=>False) rfl rfl ⟨rfl,rfl,yo0 A' sl c'⟩ (fun _ hk=>hk.elim) (fun _ _=>trivial) HRW.out HBR.out HBR.out.size (by have:=HRL.out;have:=HLT.out;omega) ?_;intro v7 w7 hR7 hb7 hg7 hat7;have hT7:=HT.out.push (t:=⟨yd2 s,.slice A' sl c',og⟩) hg7 HFR.out HBQ.out (Kd.R_lower hR7 hbase);have HT7:=Lib.hid hT7;have HB7:=Lib.hid hb7;have HR7:=Lib.hid hR7;obtain⟨A7,c7,rfl⟩:=hT7.slice;clear hR7 hb7 hg7 hat7 hT7)
   go_roundw
   case rel=>exact⟨i+1,HLT.out,by go_num,Lib.hid (by have h:=HT7.out;rw[List.length_append] at h;rw[HSN.out];exact h),Lib.hid (by have h:=HR7.out;rw[List.length_append] at h;rw[HSN.out,List.map_append];exact h),HB7⟩
   case measure=>have:=HLT.out;simp [intOf];omega
  ·obtain rfl:i=es.length:=by omega
   have hta:(asT vs ogs es).take es.length=asT vs ogs es:=List.take_of_length_le (by rw[yf4];exact Nat.le_refl _)
   rw[hta] at HT ⊢
   clear hta htk
   go_wp2
   go_ret2
   exact⟨_,rfl,HBR.out,HT.out⟩
theorem decS_ok {b:List Int} (hb:Bys b) (h:(decS b).2=0):(decS b).1.length≤4096∧∀ s∈(decS b).1,s.length≤200∧Bys s:=by
 have he:=enc_dec hb h
 generalize (decS b).1=es at *
 unfold encS at he
 by_cases hi:(idx es).2.2=0
 rotate_left
 ·rw[if_neg hi] at he
  exact absurd (congrArg Prod.snd he) hi
 rw[if_pos hi] at he
 obtain⟨h1,h2,h3,_⟩:=yk4 hi
 refine⟨h1,fun s hs=>⟨h2 s hs,fun x hx=>hb x ?_⟩⟩
 have he1:=congrArg Prod.fst he
 simp only at he1
 rw[← he1,h3]
 unfold encB
 refine List.mem_append_left _ (List.mem_append_left _ (List.mem_append_right _ ?_))
 exact List.mem_flatten.2 ⟨one s,List.mem_map.2 ⟨s,ydp.2 hs,rfl⟩,List.mem_append_right _ hx⟩
theorem decS_len {b:List Int} (hb:Bys b):(decS b).1.length≤4096:=by
 by_cases h:(decS b).2=0
 ·exact(decS_ok hb h).1
 ·rw[dec_err h];simp
theorem yn7 {kind:Int}:yg9 kind 4:=by
 intro b n hb h c hc
 unfold yb6 at h hc
 rw[if_neg (by decide),if_neg (by decide),if_neg (by decide),if_pos rfl] at h hc
 obtain⟨h1,h2,h3⟩:=yf2 h
 rw[h3] at hc
 obtain⟨s,hs,rfl⟩:=List.mem_map.1 hc
 have:=(decS_ok hb h1).2 s hs
 exact ykl this.2 this.1
def TextsMade (w:World) (es:List (List Int)) (n:Int) (e:Ending) (w':World):Prop:=∃ v,e=.returned (.tuple #[v,.int .i64 n])∧Below w.heap.size w w'∧EntB w' w.heap.size v es
theorem ynt {w w1:World} {v:Value} {es:List (List Int)} (er:Int) (hb:Below w.heap.size w w1) (h:EntB w1 w.heap.size v es) (hl:es.length≤4096) :
  Calls Tryz.prog 69 #[v,.int .i64 er] w1 fun e w'=>∃ A c,e=.returned (.tuple #[.slice A (es.map yd2).length c,.int .i64 er])∧Below w.heap.size w w'∧CelB w' w.heap.size (.slice A (es.map yd2).length c) (es.map yd2):=by
 obtain⟨vs,ogs,hX⟩:=EntX.of h
 refine(yn0 _ _ v vs ogs es er w1 hX hb.size hl).mono ?_
 rintro e w2 ⟨v2,rfl,hb2,hT⟩
 obtain⟨A,c,rfl⟩:=hT.slice
 rw[yf4] at hT
 rw[yf4,List.length_map]
 exact⟨A,c,rfl,yad hb hb.size hb2,_,asT_cells vs ogs es,hT⟩
theorem yqu (kind:Int):yf1 kind 4:=by
 intro A c b n w h hc hb hl hn
 have hd:=ypj A c b w h hc hb (by omega)
 have hlen:=decS_len hb
 have hcd:yb6 kind 4 b n=yc0 ((decS b).1.map yd2) (decS b).2 n:=by unfold yb6;rw[if_neg (by decide),if_neg (by decide),if_neg (by decide),if_pos rfl]
 rw[hcd]
 clear hcd
 generalize decS b=r at *
 obtain⟨es,er⟩:=r
 simp only at hd hlen ⊢
 have hf:=fun(w1:World) (v:Value) (h1:Below w.heap.size w w1) (h2:EntB w1 w.heap.size v es)=>ynt er h1 h2 hlen
 generalize es.map yd2=cs at *
 have HD:=Lib.hid hd;have HF:=Lib.hid hf
 clear h hb hd hf
 by_cases he:er=0
 ·subst he
  by_cases hm:cs.length=n
  ·have hX:yc0 cs 0 n=(cs,0):=yfi cs n hm
   rw[hX]
   subst hm
   clear hX
   go_enter Tryz.func41,Tryz.ntmps41
   go_wp2_with (first
    | (go_at_call 70;refine HD.out.mono ?_;rintro e w1 ⟨v1,rfl,hb1,hE1⟩)
    | (go_at_call 69;refine(HF.out _ _ hb1 hE1).mono ?_;rintro e w2 ⟨A2,c2,rfl,hb2,hC2⟩;have HC2:=Lib.hid hC2;clear hC2 hE1))
   go_ret2
   exact⟨_,rfl,hb2,fun _=>HC2.out⟩
  ·have hX:yc0 cs 0 n=([],5):=by unfold yc0;rw[if_neg (by decide),if_pos hm]
   rw[hX]
   have hmi:¬ (cs.length:Int)=(n:Int):=by omega
   have hmb:((cs.length:Int) == (n:Int))=false:=by simpa using hmi
   clear hX
   go_enter Tryz.func41,Tryz.ntmps41
   go_wp2_with (first
    | (go_at_call 70;refine HD.out.mono ?_;rintro e w1 ⟨v1,rfl,hb1,hE1⟩)
    | (go_at_call 69;refine(HF.out _ _ hb1 hE1).mono ?_;rintro e w2 ⟨A2,c2,rfl,hb2,hC2⟩;have HC2:=Lib.hid hC2;clear hC2 hE1))
   go_ret2
   exact⟨_,rfl,hb2,fun h=>absurd h (by decide)⟩
 ·have hX:yc0 cs er n=([],er):=by unfold yc0;rw[if_pos he]
  rw[hX]
  have heb:(er == 0)=false:=by simpa using he
  clear hX
  go_enter Tryz.func41,Tryz.ntmps41
  go_wp2_with (first
   | (go_at_call 70;refine HD.out.mono ?_;rintro e w1 ⟨v1,rfl,hb1,hE1⟩)
   | (go_at_call 69;refine(HF.out _ _ hb1 hE1).mono ?_;rintro e w2 ⟨A2,c2,rfl,hb2,hC2⟩;have HC2:=Lib.hid hC2;clear hC2 hE1))
  go_ret2
  exact⟨_,rfl,hb2,fun h=>absurd h he⟩
def yeb (w:World) (r:List Int×Nat×Int) (e:Ending) (w':World):Prop:=∃ A c og,e=.returned (.tuple #[.slice A r.1.length c,.int .i64 (r.2.1:Int),.int .i64 r.2.2])∧Below w.heap.size w w'∧(r.2.2=0→Byt w' w.heap.size og (.slice A r.1.length c) r.1)
theorem yeb.nil {w w':World} {n:Int} (hn:n≠0) (hb:Below w.heap.size w w'):yeb w ([],0,n) (.returned (.tuple #[.slice none 0 0,.int .i64 0,.int .i64 n])) w':=⟨Option.none,0,Option.none,rfl,hb,fun h=>absurd h hn⟩
theorem ypd (A:Option Addr) (n c:Nat) (hc:n≤c):∀ W:World,(Instr.slice 25 (.slice A n c) none (some (.int .i64 (n:Int))) (some (.int .i64 (n:Int)))).run Tryz.prog W=.ok (.slice A n n) W:=by
 intro W
 obtain⟨i0,hi0,_,hsz,_⟩:=info_parts yb9
 have hel:Tryz.prog.elem 25=5:=by simp [Program.elem,Tryz.underlying25]
 have hu:Tryz.prog.underlying 25=some (.slice (Tryz.prog.elem 25)):=by rw[hel];exact Tryz.underlying25
 have ha:(A.map fun x=>x.add 0)=A:=by cases A <;> simp [Addr.add]
 rw[run_slice_hm W 25 A n c hu .i64 .i64 (n:Int) (n:Int) (by omega) (by omega) (by omega),hel]
 simp [sizeOf,typeInfo,hi0,sliced,Result.andThen,ha]
theorem cut_pre (A:Option Addr) (n c j:Nat) (hj:j≤n) (hc:n≤c):∀ W:World,(Instr.slice 25 (.slice A n c) none (some (.int .u64 (j:Int))) none).run Tryz.prog W=.ok (.slice A j c) W:=by
 obtain⟨i0,hi0,_,hsz,_⟩:=info_parts yb9
 have h:=yl8 (P:=Tryz.prog) 25 5 .u64 Tryz.underlying25 hi0 A n c (j:Int) (by omega) (by omega) hc
 simpa only [Int.toNat_natCast] using h
theorem yka {P:Program} {ops:Array Oper} {o:Oper} {a:Act} {w:World} {K:Act→World→Prop} {Q:Exit→Act→World→Prop} {E:Prop} (hgd:o.guard=none) (f:FuncId) (args:Array Value) (hrun:(execOp a.eval o).run P w=.ok (.enter f args) w)
  {Post:Ending→World→Prop} (hc:Calls P f args w Post) (h:∀ e w',Post e w'→∃ v,e=.returned v∧K (a.put o.dst v) w'):if Region.wanted o (yielded ops a.tmps)=true then Oper.wp P o a w K Q else E:=by
 have hw:Region.wanted o (yielded ops a.tmps)=true:=by simp [Region.wanted,hgd]
 rw[if_pos hw]
 unfold Oper.wp
 rw[hrun,Oper.upon_enter]
 refine hc.mono fun e w'' hh=>?_
 obtain⟨v,rfl,hK⟩:=h e w'' hh
 exact hK
theorem Byt.cut {w:World} {base n c:Nat} {A:Option Addr} {xs:List Int} (h:w.ownsRow base 5 1 (.slice A n c) n (nums .u8 xs)):Byt w base (Value.slice A n c).ownBlock (.slice A n n) xs:=by
 have hl:xs.length=n:=by have:=h.1;rw[yli] at this;omega
 rcases Byt.of_own h with ⟨h1,h2,h3⟩|⟨g,cap,cells,m,h1,h2,h3,h4,h5,h6,h7,h8,h9⟩
 ·injection h2 with e1 e2 e3
  subst e1;subst e2
  exact .inl ⟨h1,rfl,h3⟩
 ·injection h2 with e1 e2 e3
  refine .inr ⟨g,xs.length,cells,m,h1,by rw[e1,hl],h3,Nat.le_refl _,h5,by omega,h7.elim (fun h=>.inl (by omega)) .inr,by omega,h9⟩
theorem len_u64 {n:Nat} (h:n≤1000000):IntKind.u64.wrap (n:Int)=(n:Int):=wraps_u64 _ (by omega) (by omega)
theorem text_part (A:Option Addr) (c:Nat) (b:List Int) (p:Nat) (LA:Option Addr) (lc:Nat) (la:List Int) (w:World) (h:Kd.C (Kd.int .u8) w A b.length b) (hc:b.length≤c) (hb:Bys b) (hl:b.length≤65000) (hp:p≤b.length)
  (hL:Kd.C (Kd.int .u8) w LA la.length la) (hlc:la.length≤lc) (hla:la.length≤200) :
  Calls Tryz.prog 112 #[.slice A b.length c,.int .i64 p,.slice LA la.length lc,.bool false] w (yeb w (yc3 b p la false)):=by
 have hg0:=yfr h hc hb (by omega) hp w (Below.refl _ _)
 have hgp:=fun(p:Nat) (hp:p≤b.length)=>yfr h hc hb (by omega) hp
 have hle0:=fun h=>yeh hb (p:=p) h
 have hlt0:=fun h=>ye4 (p:=p) hb h
 unfold yc3
 generalize vget b p=r0 at *
 obtain⟨k1,q,e0⟩:=r0
 simp only at hg0 hle0 hlt0 ⊢
 by_cases he:e0=0
 rotate_left
 ·rw[if_pos he]
  have heb:(e0 == 0)=false:=by simpa using he
  have HG:=Lib.hid hg0;have HE:=Lib.hid he
  clear h hb hgp hg0 hle0 hlt0 hL he
  go_enter Tryz.func112,Tryz.ntmps112
  go_wp2_with (go_at_call 39;refine(HG.out).mono ?_;rintro e w1 ⟨rfl,⟨m1,rfl⟩⟩)
  go_ret3
  exact yeb.nil HE.out (yab (Below.refl _ _) _)
 subst he
 rw[if_neg (by decide)]
 have hq:=(hle0 rfl).1
 have hk64:=hlt0 rfl
 have hg1:=hgp q hq
 have hle1:=fun h=>yeh hb (p:=q) h
 have hlt1:=fun h=>ye4 (p:=q) hb h
 generalize vget b q=r1 at *
 obtain⟨k2,q2,e1⟩:=r1
 simp only at hg1 hle1 hlt1 ⊢
 have HG:=Lib.hid hg0;have HG1:=Lib.hid hg1
 by_cases he1:e1=0
 rotate_left
 ·rw[if_pos he1]
  have heb:(e1 == 0)=false:=by simpa using he1
  have HE:=Lib.hid he1
  clear h hb hgp hg0 hle0 hlt0 hg1 hle1 hlt1 hL he1
  go_enter Tryz.func112,Tryz.ntmps112
  go_upto_region 4 with (go_at_call 39;refine(HG.out).mono ?_;rintro e w1 ⟨rfl,⟨m1,rfl⟩⟩)
  go_wp2_with (go_at_call 39;refine(HG1.out _ (by repeat (first|exact Below.refl _ _|apply yab))).mono ?_;rintro e w2 ⟨rfl,⟨m2,rfl⟩⟩)
  go_ret3
  exact yeb.nil HE.out (by repeat (first|exact Below.refl _ _|apply yab))
 subst he1
 rw[if_neg (by decide)]
 have hq2:=(hle1 rfl).1
 have hm64:=hlt1 rfl
 have hlw:=len_u64 (n:=la.length) (by omega)
 clear hg0 hg1 hle0 hle1 hlt0 hlt1 hgp
 by_cases h3:la.length<k1
 ·rw[if_pos (.inl h3)]
  have h3i:(la.length:Int)<(k1:Int):=by omega
  clear h hb hL
  go_enter Tryz.func112,Tryz.ntmps112
  go_upto_region 4 with (go_at_call 39;refine(HG.out).mono ?_;rintro e w1 ⟨rfl,⟨m1,rfl⟩⟩)
  go_wp2_with (go_at_call 39;refine(HG1.out _ (by repeat (first|exact Below.refl _ _|apply yab))).mono ?_;rintro e w2 ⟨rfl,⟨m2,rfl⟩⟩)
  go_ret3
  exact yeb.nil (by decide) (by repeat (first|exact Below.refl _ _|apply yab))
 have h3i:decide ((la.length:Int)<(k1:Int))=false:=by simp;omega
 have h3n:k1≤la.length:=by omega
 rw[if_neg (by rintro(h|⟨h,_⟩) <;> first|exact h3 h|exact absurd h (by decide))]
 have hkw:IntKind.u64.wrap (200-(k1:Int))=200-(k1:Int):=wraps_u64 _ (by omega) (by omega)
 by_cases h4:200<k1+k2
 ·rw[if_pos h4]
  have h4i:200-(k1:Int)<(k2:Int):=by omega
  clear h hb hL h4
  go_enter Tryz.func112,Tryz.ntmps112
  go_upto_region 4 with (go_at_call 39;refine(HG.out).mono ?_;rintro e w1 ⟨rfl,⟨m1,rfl⟩⟩)
  go_wp2_with (go_at_call 39;refine(HG1.out _ (by repeat (first|exact Below.refl _ _|apply yab))).mono ?_;rintro e w2 ⟨rfl,⟨m2,rfl⟩⟩)
  go_ret3
  exact yeb.nil (by decide) (by repeat (first|exact Below.refl _ _|apply yab))
 rw[if_neg h4]
 have h4i:decide (200-(k1:Int)<(k2:Int))=false:=by simp;omega
 have h4n:(k2:Int)≤200-(k1:Int):=by omega
 have h4m:k1+k2≤200:=by omega
 have hk2w:IntKind.i64.wrap (k2:Int)=(k2:Int):=ydv _ (by omega) (by omega)
 by_cases h5:b.length-q2<k2
 ·rw[if_pos h5]
  have h5i:(b.length:Int)-(q2:Int)<(k2:Int):=by omega
  clear h hb hL h4
  go_enter Tryz.func112,Tryz.ntmps112
  go_upto_region 4 with (go_at_call 39;refine(HG.out).mono ?_;rintro e w1 ⟨rfl,⟨m1,rfl⟩⟩)
  go_wp2_with (go_at_call 39;refine(HG1.out _ (by repeat (first|exact Below.refl _ _|apply yab))).mono ?_;rintro e w2 ⟨rfl,⟨m2,rfl⟩⟩)
  go_ret3
  exact yeb.nil (by decide) (by repeat (first|exact Below.refl _ _|apply yab))
 rw[if_neg h5]
 have h5i:decide ((b.length:Int)-(q2:Int)<(k2:Int))=false:=by simp;omega
 have h5n:(k2:Int)≤(b.length:Int)-(q2:Int):=by omega
 have h5m:q2+k2≤b.length:=by omega
 have hcut1:=cut_pre LA la.length lc k1 h3n hlc
 obtain⟨X,hX⟩:∃ X,X=la.take k1:=⟨_,rfl⟩
 have hXl:X.length=k1:=by rw[hX,List.length_take];omega
 have hXC:Kd.C (Kd.int .u8) w LA X.length X:=by rw[hX];exact Kd.C_take hL h3n
 obtain⟨B',hcut2,hB'⟩:=yir A c b q2 (q2+k2) (by omega) h5m hc
 have hsd:(b.take (q2+k2)).drop q2=(b.drop q2).take k2:=by rw[List.drop_take];congr 1;omega
 rw[show q2+k2-q2=k2 by omega,hsd] at hB'
 rw[show q2+k2-q2=k2 by omega,show((q2+k2:Nat):Int)=(q2:Int)+(k2:Int) by omega] at hcut2
 obtain⟨Y,hY⟩:∃ Y,Y=(b.drop q2).take k2:=⟨_,rfl⟩
 have hYl:Y.length=k2:=by rw[hY,List.length_take,List.length_drop];omega
 have hYC:Kd.C (Kd.int .u8) w B' Y.length Y:=by rw[hYl,hY];exact hB' w h
 rw[← hX,← hY]
 have hq2k:IntKind.i64.wrap ((q2:Int)+(k2:Int))=(q2:Int)+(k2:Int):=ydv _ (by omega) (by omega)
 have hq20:(0:Int)≤(q2:Int)+(k2:Int):=by omega
 have hcl:=fun(w2:World) (hb2:Below w.heap.size w w2)=>yix LA lc X w2 (Kd.C_below hXC hb2) (by omega)
 have hfull:=fun(A:Option Addr) (c:Nat) (h:(X++Y).length≤c)=>ypd A (X++Y).length c h
 have hSl:(X++Y).length=k1+k2:=by rw[List.length_append,hXl,hYl]
 have HCL:=Lib.hid hcl;have HYC:=Lib.hid hYC;have HSL:=Lib.hid hSl;have HLC:=Lib.hid hL
 clear h hb hL hXC hB' hsd hY hX hcl hYC hSl h4
 subst hXl
 subst hYl
 by_cases hk:ycq la (X++Y)=X.length
 ·rw[if_neg (by rintro⟨_,h⟩;exact h hk)]
  have hxw:IntKind.i64.wrap (X.length:Int)=(X.length:Int):=ydv _ (by omega) (by omega)
  go_enter Tryz.func112,Tryz.ntmps112
  go_upto_region 4 with (go_at_call 39;refine(HG.out).mono ?_;rintro e w1 ⟨rfl,⟨m1,rfl⟩⟩)
  go_upto_region 13 with (go_at_call 39;refine(HG1.out _ (by repeat (first|exact Below.refl _ _|apply yab))).mono ?_;rintro e w2 ⟨rfl,⟨m2,rfl⟩⟩)
  have hbx:Below w.heap.size w (w.drewN (m1+m2)):=yab (Below.refl _ _) _
  generalize w.drewN (m1+m2)=wx at *
  have HBX:=Lib.hid hbx
  have hcd:=HCL.out wx.drew (yat HBX.out)
  clear HG HG1 hbx
  go_region_law (first
   | (refine yka rfl 106 #[.slice LA X.length lc] ?hr hcd ?_;(case hr=>kernel_rfl);rintro e w6 ⟨A6,c6,rfl,ho6,hb6'⟩;refine⟨_,rfl,?_⟩;have hb6:=yad (yat HBX.out) (yat HBX.out).size hb6';have hR6:Kd.R (Kd.int .u8) 5 w6 w.heap.size (fun _=>True) (.slice A6 X.length c6) X:=Kd.R_of_own (ygr ho6 (yat HBX.out).size) (fun _ _=>trivial))
   | (refine Kd.R_append_rows_step (Kd.int .u8) (w0:=w) w.heap.size (by rfl) (.tmp 65) (.tmp 72) 25 5 (.int .u8 0) 1 (by rfl) Tryz.underlying25 yb9 rfl (by decide) (by decide) _ X Y B' Y.length (c-q2) (fun _=>True) (fun _=>False) (by rfl) (by rfl)
       (by (with_reducible repeat (first|apply Kd.R_drewN|apply Kd.R_drew));exact hR6)
       (Kd.C_below HYC.out (by repeat (first|exact hb6|exact Below.refl _ _|apply yab|apply yat))) (fun x cs h=>h) (fun _ h=>h.elim) (fun _ _=>trivial) (by repeat (first|exact hb6|exact Below.refl _ _|apply yab|apply yat)) (by refine(fun(hx:Below w.heap.size w _)=>hx.size) ?_;repeat (first|exact hb6|exact Below.refl _ _|apply yab|apply yat)) (by (try simp only[List.length_nil]);omega) ?_;intro v9 w9 hR9 hb9 hg9 hat9))
  have HAT:=Lib.hid (show(q2:Int)+(Y.length:Int)=((q2+Y.length:Nat):Int) by omega)
  obtain⟨A9,c9,rfl,hc9,hC9⟩:=Kd.R_reads hR9
  have hbyt:=Byt.cut (Kd.own_of_R hR9)
  have hfl:=hfull A9 c9 hc9
  have HBY:=Lib.hid hbyt;have HB9:=Lib.hid hb9
  have hsh:=yjq LA A9 lc c9 la (X++Y) w9 (Kd.C_below HLC.out hb9) hC9
  rw[hk] at hsh
  clear hk
  have HSH:=Lib.hid hsh
  clear hsh
  clear hfull hR9 hC9 hbyt hb9 hg9 hat9 hR6 hb6 hb6' ho6 hcut1 hcut2 hcd HCL HYC HLC HBX
  generalize X++Y=S at *
  go_wp2_with (go_at_call 128;refine HSH.out.mono ?_;rintro e w10 ⟨rfl,⟨m10,rfl⟩⟩)
  go_ret3
  exact⟨A9,S.length,_,congrArg (fun z=>Ending.returned (.tuple #[.slice A9 S.length S.length,.int .i64 z,.int .i64 0])) HAT.out,by repeat (first|exact HB9.out|apply yab),fun _=>Byt.keep HBY.out (fun g hg=>(by rfl))⟩
 ·rw[if_pos ⟨by simp,hk⟩]
  have hki:¬ (ycq la (X++Y):Int)=(X.length:Int):=by omega
  have hkb:((ycq la (X++Y):Int) == (X.length:Int))=false:=by simpa using hki
  clear hk
  have hxw:IntKind.i64.wrap (X.length:Int)=(X.length:Int):=ydv _ (by omega) (by omega)
  go_enter Tryz.func112,Tryz.ntmps112
  go_upto_region 4 with (go_at_call 39;refine(HG.out).mono ?_;rintro e w1 ⟨rfl,⟨m1,rfl⟩⟩)
  go_upto_region 13 with (go_at_call 39;refine(HG1.out _ (by repeat (first|exact Below.refl _ _|apply yab))).mono ?_;rintro e w2 ⟨rfl,⟨m2,rfl⟩⟩)
  have hbx:Below w.heap.size w (w.drewN (m1+m2)):=yab (Below.refl _ _) _
  generalize w.drewN (m1+m2)=wx at *
  have HBX:=Lib.hid hbx
  have hcd:=HCL.out wx.drew (yat HBX.out)
  clear HG HG1 hbx
  go_region_law (first
   | (refine yka rfl 106 #[.slice LA X.length lc] ?hr hcd ?_;(case hr=>kernel_rfl);rintro e w6 ⟨A6,c6,rfl,ho6,hb6'⟩;refine⟨_,rfl,?_⟩;have hb6:=yad (yat HBX.out) (yat HBX.out).size hb6';have hR6:Kd.R (Kd.int .u8) 5 w6 w.heap.size (fun _=>True) (.slice A6 X.length c6) X:=Kd.R_of_own (ygr ho6 (yat HBX.out).size) (fun _ _=>trivial))
   | (refine Kd.R_append_rows_step (Kd.int .u8) (w0:=w) w.heap.size (by rfl) (.tmp 65) (.tmp 72) 25 5 (.int .u8 0) 1 (by rfl) Tryz.underlying25 yb9 rfl (by decide) (by decide) _ X Y B' Y.length (c-q2) (fun _=>True) (fun _=>False) (by rfl) (by rfl)
       (by (with_reducible repeat (first|apply Kd.R_drewN|apply Kd.R_drew));exact hR6)
       (Kd.C_below HYC.out (by repeat (first|exact hb6|exact Below.refl _ _|apply yab|apply yat))) (fun x cs h=>h) (fun _ h=>h.elim) (fun _ _=>trivial) (by repeat (first|exact hb6|exact Below.refl _ _|apply yab|apply yat)) (by refine(fun(hx:Below w.heap.size w _)=>hx.size) ?_;repeat (first|exact hb6|exact Below.refl _ _|apply yab|apply yat)) (by (try simp only[List.length_nil]);omega) ?_;intro v9 w9 hR9 hb9 hg9 hat9))
  have HAT:=Lib.hid (show(q2:Int)+(Y.length:Int)=((q2+Y.length:Nat):Int) by omega)
  obtain⟨A9,c9,rfl,hc9,hC9⟩:=Kd.R_reads hR9
  have hbyt:=Byt.cut (Kd.own_of_R hR9)
  have hfl:=hfull A9 c9 hc9
  have HBY:=Lib.hid hbyt;have HB9:=Lib.hid hb9
  have hsh:=yjq LA A9 lc c9 la (X++Y) w9 (Kd.C_below HLC.out hb9) hC9
  generalize ycq la (X++Y)=sk at *
  have HSH:=Lib.hid hsh
  clear hsh
  clear hfull hR9 hC9 hbyt hb9 hg9 hat9 hR6 hb6 hb6' ho6 hcut1 hcut2 hcd HCL HYC HLC HBX
  generalize X++Y=S at *
  go_wp2_with (go_at_call 128;refine HSH.out.mono ?_;rintro e w10 ⟨rfl,⟨m10,rfl⟩⟩)
  go_ret3
  exact yeb.nil (by decide) (by repeat (first|exact HB9.out|apply yab))
theorem yqv (A:Option Addr) (c:Nat) (b:List Int) (p:Nat) (LA:Option Addr) (lc:Nat) (la:List Int) (w:World) (h:Kd.C (Kd.int .u8) w A b.length b) (hc:b.length≤c) (hb:Bys b) (hl:b.length≤65000) (hp:p≤b.length)
  (hL:Kd.C (Kd.int .u8) w LA la.length la) (hlc:la.length≤lc) (hla:la.length≤200) :
  Calls Tryz.prog 112 #[.slice A b.length c,.int .i64 p,.slice LA la.length lc,.bool true] w (yeb w (yc3 b p la true)):=by
 have hg0:=yfr h hc hb (by omega) hp w (Below.refl _ _)
 have hgp:=fun(p:Nat) (hp:p≤b.length)=>yfr h hc hb (by omega) hp
 have hle0:=fun h=>yeh hb (p:=p) h
 have hlt0:=fun h=>ye4 (p:=p) hb h
 unfold yc3
 generalize vget b p=r0 at *
 obtain⟨k1,q,e0⟩:=r0
 simp only at hg0 hle0 hlt0 ⊢
 by_cases he:e0=0
 rotate_left
 ·rw[if_pos he]
  have heb:(e0 == 0)=false:=by simpa using he
  have HG:=Lib.hid hg0;have HE:=Lib.hid he
  clear h hb hgp hg0 hle0 hlt0 hL he
  go_enter Tryz.func112,Tryz.ntmps112
  go_wp2_with (go_at_call 39;refine(HG.out).mono ?_;rintro e w1 ⟨rfl,⟨m1,rfl⟩⟩)
  go_ret3
  exact yeb.nil HE.out (yab (Below.refl _ _) _)
 subst he
 rw[if_neg (by decide)]
 have hq:=(hle0 rfl).1
 have hk64:=hlt0 rfl
 have hg1:=hgp q hq
 have hle1:=fun h=>yeh hb (p:=q) h
 have hlt1:=fun h=>ye4 (p:=q) hb h
 generalize vget b q=r1 at *
 obtain⟨k2,q2,e1⟩:=r1
 simp only at hg1 hle1 hlt1 ⊢
 have HG:=Lib.hid hg0;have HG1:=Lib.hid hg1
 by_cases he1:e1=0
 rotate_left
 ·rw[if_pos he1]
  have heb:(e1 == 0)=false:=by simpa using he1
  have HE:=Lib.hid he1
  clear h hb hgp hg0 hle0 hlt0 hg1 hle1 hlt1 hL he1
  go_enter Tryz.func112,Tryz.ntmps112
  go_upto_region 4 with (go_at_call 39;refine(HG.out).mono ?_;rintro e w1 ⟨rfl,⟨m1,rfl⟩⟩)
  go_wp2_with (go_at_call 39;refine(HG1.out _ (by repeat (first|exact Below.refl _ _|apply yab))).mono ?_;rintro e w2 ⟨rfl,⟨m2,rfl⟩⟩)
  go_ret3
  exact yeb.nil HE.out (by repeat (first|exact Below.refl _ _|apply yab))
 subst he1
 rw[if_neg (by decide)]
 have hq2:=(hle1 rfl).1
 have hm64:=hlt1 rfl
 have hlw:=len_u64 (n:=la.length) (by omega)
 clear hg0 hg1 hle0 hle1 hlt0 hlt1 hgp
 by_cases h3:la.length<k1
 ·rw[if_pos (.inl h3)]
  have h3i:(la.length:Int)<(k1:Int):=by omega
  clear h hb hL
  go_enter Tryz.func112,Tryz.ntmps112
  go_upto_region 4 with (go_at_call 39;refine(HG.out).mono ?_;rintro e w1 ⟨rfl,⟨m1,rfl⟩⟩)
  go_wp2_with (go_at_call 39;refine(HG1.out _ (by repeat (first|exact Below.refl _ _|apply yab))).mono ?_;rintro e w2 ⟨rfl,⟨m2,rfl⟩⟩)
  go_ret3
  exact yeb.nil (by decide) (by repeat (first|exact Below.refl _ _|apply yab))
 have h3i:decide ((la.length:Int)<(k1:Int))=false:=by simp;omega
 have h3n:k1≤la.length:=by omega
 by_cases h3b:0<k1
 ·rw[if_pos (.inr ⟨by simp,h3b⟩)]
  have h3c:(0:Int)<(k1:Int):=by omega
  clear h hb hL
  go_enter Tryz.func112,Tryz.ntmps112
  go_upto_region 4 with (go_at_call 39;refine(HG.out).mono ?_;rintro e w1 ⟨rfl,⟨m1,rfl⟩⟩)
  go_wp2_with (go_at_call 39;refine(HG1.out _ (by repeat (first|exact Below.refl _ _|apply yab))).mono ?_;rintro e w2 ⟨rfl,⟨m2,rfl⟩⟩)
  go_ret3
  exact yeb.nil (by decide) (by repeat (first|exact Below.refl _ _|apply yab))
 rw[if_neg (by rintro(h|⟨_,h⟩) <;> first|exact h3 h|exact h3b h)]
 obtain rfl:k1=0:=by omega
 have hz0:(((0:Nat):Int))=0:=rfl
 have hgz:=HG.out
 rw[hz0] at hgz
 have HG:=Lib.hid hgz
 clear hgz h3 h3b h3i h3n hk64
 by_cases h4:200<0+k2
 ·rw[if_pos h4]
  have h4i:(200:Int)<(k2:Int):=by omega
  clear h hb hL h4
  go_enter Tryz.func112,Tryz.ntmps112
  go_upto_region 4 with (go_at_call 39;refine(HG.out).mono ?_;rintro e w1 ⟨rfl,⟨m1,rfl⟩⟩)
  go_wp2_with (go_at_call 39;refine(HG1.out _ (by repeat (first|exact Below.refl _ _|apply yab))).mono ?_;rintro e w2 ⟨rfl,⟨m2,rfl⟩⟩)
  go_ret3
  exact yeb.nil (by decide) (by repeat (first|exact Below.refl _ _|apply yab))
 rw[if_neg h4]
 have h4i:decide ((200:Int)<(k2:Int))=false:=by simp;omega
 have h4n:(k2:Int)≤200:=by omega
 have h4m:k2≤200:=by omega
 have hk2w:IntKind.i64.wrap (k2:Int)=(k2:Int):=ydv _ (by omega) (by omega)
 by_cases h5:b.length-q2<k2
 ·rw[if_pos h5]
  have h5i:(b.length:Int)-(q2:Int)<(k2:Int):=by omega
  clear h hb hL h4
  go_enter Tryz.func112,Tryz.ntmps112
  go_upto_region 4 with (go_at_call 39;refine(HG.out).mono ?_;rintro e w1 ⟨rfl,⟨m1,rfl⟩⟩)
  go_wp2_with (go_at_call 39;refine(HG1.out _ (by repeat (first|exact Below.refl _ _|apply yab))).mono ?_;rintro e w2 ⟨rfl,⟨m2,rfl⟩⟩)
  go_ret3
  exact yeb.nil (by decide) (by repeat (first|exact Below.refl _ _|apply yab))
 rw[if_neg h5]
 have h5i:decide ((b.length:Int)-(q2:Int)<(k2:Int))=false:=by simp;omega
 have h5n:(k2:Int)≤(b.length:Int)-(q2:Int):=by omega
 have h5m:q2+k2≤b.length:=by omega
 have hcut1:=cut_pre LA la.length lc 0 (Nat.zero_le _) hlc
 rw[hz0] at hcut1
 have hXC:Kd.C (Kd.int .u8) w LA ([]:List Int).length []:=by have h0:=Kd.C_take hL (Nat.zero_le la.length);rwa [List.take_zero] at h0
 obtain⟨B',hcut2,hB'⟩:=yir A c b q2 (q2+k2) (by omega) h5m hc
 have hsd:(b.take (q2+k2)).drop q2=(b.drop q2).take k2:=by rw[List.drop_take];congr 1;omega
 rw[show q2+k2-q2=k2 by omega,hsd] at hB'
 rw[show q2+k2-q2=k2 by omega,show((q2+k2:Nat):Int)=(q2:Int)+(k2:Int) by omega] at hcut2
 obtain⟨Y,hY⟩:∃ Y,Y=(b.drop q2).take k2:=⟨_,rfl⟩
 have hYl:Y.length=k2:=by rw[hY,List.length_take,List.length_drop];omega
 have hYC:Kd.C (Kd.int .u8) w B' Y.length Y:=by rw[hYl,hY];exact hB' w h
 rw[← hY,List.take_zero,List.nil_append]
 have hq2k:IntKind.i64.wrap ((q2:Int)+(k2:Int))=(q2:Int)+(k2:Int):=ydv _ (by omega) (by omega)
 have hq20:(0:Int)≤(q2:Int)+(k2:Int):=by omega
 have hcl:=fun(w2:World) (hb2:Below w.heap.size w w2)=>yix LA lc [] w2 (Kd.C_below hXC hb2) (by simp)
 simp only[List.length_nil] at hcl
 have hfull:=fun(A:Option Addr) (c:Nat) (h:Y.length≤c)=>ypd A Y.length c h
 have HCL:=Lib.hid hcl;have HYC:=Lib.hid hYC;have HLC:=Lib.hid hL
 clear h hb hL hXC hB' hsd hY hcl hYC h4
 subst hYl
 rw[if_neg (by rintro⟨h,_⟩;exact absurd h (by decide))]
 go_enter Tryz.func112,Tryz.ntmps112
 go_upto_region 4 with (go_at_call 39;refine(HG.out).mono ?_;rintro e w1 ⟨rfl,⟨m1,rfl⟩⟩)
 go_upto_region 13 with (go_at_call 39;refine(HG1.out _ (by repeat (first|exact Below.refl _ _|apply yab))).mono ?_;rintro e w2 ⟨rfl,⟨m2,rfl⟩⟩)
 have hbx:Below w.heap.size w (w.drewN (m1+m2)):=yab (Below.refl _ _) _
 generalize w.drewN (m1+m2)=wx at *
 have HBX:=Lib.hid hbx
 have hcd:=HCL.out wx.drew (yat HBX.out)
 clear HG HG1 hbx
 go_region_law (first
  | (refine yka rfl 106 #[.slice LA 0 lc] ?hr hcd ?_;(case hr=>kernel_rfl);rintro e w6 ⟨A6,c6,rfl,ho6,hb6'⟩;refine⟨_,rfl,?_⟩;have hb6:=yad (yat HBX.out) (yat HBX.out).size hb6';have hR6:Kd.R (Kd.int .u8) 5 w6 w.heap.size (fun _=>True) (.slice A6 0 c6) []:=Kd.R_of_own (ygr ho6 (yat HBX.out).size) (fun _ _=>trivial))
  | (refine Kd.R_append_rows_step (Kd.int .u8) (w0:=w) w.heap.size (by rfl) (.tmp 65) (.tmp 72) 25 5 (.int .u8 0) 1 (by rfl) Tryz.underlying25 yb9 rfl (by decide) (by decide) _ [] Y B' Y.length (c-q2) (fun _=>True) (fun _=>False) (by rfl) (by rfl)
      (by (with_reducible repeat (first|apply Kd.R_drewN|apply Kd.R_drew));exact hR6)
      (Kd.C_below HYC.out (by repeat (first|exact hb6|exact Below.refl _ _|apply yab|apply yat))) (fun x cs h=>h) (fun _ h=>h.elim) (fun _ _=>trivial) (by repeat (first|exact hb6|exact Below.refl _ _|apply yab|apply yat)) (by refine(fun(hx:Below w.heap.size w _)=>hx.size) ?_;repeat (first|exact hb6|exact Below.refl _ _|apply yab|apply yat)) (by (try simp only[List.length_nil]);omega) ?_;intro v9 w9 hR9 hb9 hg9 hat9))
 have HAT:=Lib.hid (show(q2:Int)+(Y.length:Int)=((q2+Y.length:Nat):Int) by omega)
 rw[List.nil_append] at hR9
 obtain⟨A9,c9,rfl,hc9,hC9⟩:=Kd.R_reads hR9
 have hbyt:=Byt.cut (Kd.own_of_R hR9)
 have hfl:=hfull A9 c9 hc9
 have HBY:=Lib.hid hbyt;have HB9:=Lib.hid hb9
 clear hfull hR9 hC9 hbyt hb9 hg9 hat9 hR6 hb6 hb6' ho6 hcut1 hcut2 hcd HCL HYC HLC HBX
 go_wp2
 go_ret3
 exact⟨A9,Y.length,_,congrArg (fun z=>Ending.returned (.tuple #[.slice A9 Y.length Y.length,.int .i64 z,.int .i64 0])) HAT.out,by repeat (first|exact HB9.out|apply yab),fun _=>Byt.keep HBY.out (fun g hg=>(by rfl))⟩
theorem yq1 {b la:List Int} (hb:Bys b) {p:Nat} {wh:Bool} (h:(yc3 b p la wh).2.2=0):(yc3 b p la wh).2.1≤b.length∧(yc3 b p la wh).1.length≤200:=by
 have h2:=fun h=>(yeh hb (p:=(vget b p).2.1) h).1
 unfold yc3 at h ⊢
 by_cases c1:(vget b p).2.2=0
 rotate_left
 ·rw[if_pos c1] at h;exact absurd h c1
 rw[if_neg (by simpa using c1)] at h ⊢
 by_cases c2:(vget b (vget b p).2.1).2.2=0
 rotate_left
 ·rw[if_pos c2] at h;exact absurd h c2
 rw[if_neg (by simpa using c2)] at h ⊢
 have h3:=h2 c2
 split at h
 ·exact absurd h (by decide)
 split at h
 ·exact absurd h (by decide)
 split at h
 ·exact absurd h (by decide)
 split at h
 ·exact absurd h (by decide)
 rename_i c3 c4 c5 c6
 rw[if_neg c3,if_neg c4,if_neg c5,if_neg c6]
 refine⟨by simp only;omega,?_⟩
 simp only[List.length_append,List.length_take]
 omega
theorem EntX.push {W w1:World} {base:Nat} {v v1 u:Value} {og:Option Nat} {s:List Int} {vs:List Value} {ogs:List (Option Nat)} {es:List (List Int)} {B:Nat} (h:EntX W base B v vs ogs es) (hBW:B≤W.heap.size) (hu:Byt W base og u s) (hn:∀ g,og=some g→∀ i:Nat,ogs[i]?≠some (some g))
  (hown:w1.ownsRow base 25 1 v1 (es.length+1) (vs++[u])) (hg:W.grownBy w1 v.ownBlock):EntX w1 base w1.heap.size v1 (vs++[u]) (ogs++[og]) (es++[s]):=by
 have hvl:vs.length=es.length:=by have:=h.row.1;omega
 have hkeep:∀ (og':Option Nat) (u':Value) (x:List Int),Byt W base og' u' x→Byt w1 base og' u' x:=fun og' u' x hB=>hB.keep (fun g hg'=>hg.block g (hB.lt g hg') (fun e=>by
  obtain⟨cells,m,h1⟩:=hB.typed g hg'
  obtain⟨cells',h2⟩:=ydt h.row g e.symm
  rw[h1] at h2
  injection h2 with h2
  injection h2 with _ h2 _
  exact absurd h2 (by decide)))
 refine⟨by rw[List.length_append];exact hown,by rw[List.length_append,List.length_append,h.len];rfl,fun i j g hij hi hj=>?_,fun i g hi=>?_,fun i hi=>?_⟩
 ·by_cases hj2:j<ogs.length
  ·rw[List.getElem?_append_left hj2] at hj
   rw[List.getElem?_append_left (by omega)] at hi
   exact h.apart i j g hij hi hj
  ·rw[List.getElem?_append_right (by omega)] at hj
   obtain⟨hj3,hj4⟩:=List.getElem?_eq_some_iff.1 hj
   have hj5:j-ogs.length=0:=by simpa using hj3
   rw[List.getElem?_append_left (by omega)] at hi
   rw[hj5] at hj
   have e:og=some g:=by simpa using hj
   exact hn g e i hi
 ·by_cases hj2:i<ogs.length
  ·rw[List.getElem?_append_left hj2] at hi
   exact Nat.lt_of_lt_of_le (Nat.lt_of_lt_of_le (h.low i g hi) hBW) hg.size
  ·rw[List.getElem?_append_right (by omega)] at hi
   obtain⟨hj3,hj4⟩:=List.getElem?_eq_some_iff.1 hi
   have hj5:i-ogs.length=0:=by simpa using hj3
   rw[hj5] at hi
   have e:og=some g:=by simpa using hi
   exact Nat.lt_of_lt_of_le (hu.lt g e) hg.size
 ·by_cases hi2:i<es.length
  ·obtain⟨u',og',h1,h2,h3⟩:=h.each i hi2
   refine⟨u',og',by rw[List.getElem?_append_left (by omega)];exact h1,by rw[List.getElem?_append_left (by rw[h.len];exact hi2)];exact h2,?_⟩
   rw[List.getElem_append_left hi2]
   exact hkeep _ _ _ h3
  ·have hi3:i=es.length:=by rw[List.length_append,List.length_singleton] at hi;omega
   subst hi3
   refine⟨u,og,by rw[← hvl];simp,by rw[← h.len];simp,?_⟩
   rw[List.getElem_append_right (Nat.le_refl _)]
   simpa using hkeep _ _ _ hu
theorem yrk (A:Option Addr) (c:Nat) (b:List Int) (w:World) (h:Kd.C (Kd.int .u8) w A b.length b) (hc:b.length≤c) (hb:Bys b) (hl:b.length≤65000) :
  Calls Tryz.prog 71 #[.slice A b.length c] w (TextsMade w (yd9 b).1 (yd9 b).2):=by
 have hg0:=yfr h hc hb (by omega) (Nat.zero_le _) w (Below.refl _ _)
 have hle0:=fun h=>yeh hb (p:=0) h
 have htx:=fun(p:Nat) (hp:p≤b.length) (LA:Option Addr) (lc:Nat) (la:List Int) (w2:World) (hb2:Below w.heap.size w w2) (hL:Kd.C (Kd.int .u8) w2 LA la.length la) (hlc:la.length≤lc) (hla:la.length≤200) =>
  text_part A c b p LA lc la w2 (Kd.C_below h hb2) hc hb hl hp hL hlc hla
 have hty:=fun(p:Nat) (hp:p≤b.length) (LA:Option Addr) (lc:Nat) (la:List Int) (w2:World) (hb2:Below w.heap.size w w2) (hL:Kd.C (Kd.int .u8) w2 LA la.length la) (hlc:la.length≤lc) (hla:la.length≤200) =>
  yqv A c b p LA lc la w2 (Kd.C_below h hb2) hc hb hl hp hL hlc hla
 have hpl:=fun(p:Nat) (la:List Int) (wh:Bool)=>@yq1 b la hb p wh
 unfold yd9
 rw[show(((0:Nat):Int))=0 from rfl] at hg0
 have hlt:=fun h=>ye4 (p:=0) hb h
 generalize hv0:vget b 0=r0 at *
 obtain⟨n,q,e0⟩:=r0
 simp only at hg0 hle0 hlt ⊢
 by_cases he:e0=0
 rotate_left
 ·rw[if_pos he]
  have heb:(e0 == 0)=false:=by simpa using he
  have HG:=Lib.hid hg0
  clear h hb hg0 hle0 hlt hv0 htx hty hpl
  go_enter Tryz.func71,Tryz.ntmps71
  go_wp2_with (go_at_call 39;refine(HG.out).mono ?_;rintro e w1 ⟨rfl,⟨m1,rfl⟩⟩)
  go_ret2
  exact⟨_,rfl,yab (Below.refl _ _) _,EntB.nil _ _⟩
 subst he
 rw[if_neg (by decide)]
 have hle:=(hle0 rfl).1
 by_cases hn:4096<n
 ·rw[if_pos hn]
  have hi:(4096:Int)<(n:Int):=by omega
  have HG:=Lib.hid hg0
  clear h hb hg0 hle0 hlt hv0 htx hty hpl
  go_enter Tryz.func71,Tryz.ntmps71
  go_wp2_with (go_at_call 39;refine(HG.out).mono ?_;rintro e w1 ⟨rfl,⟨m1,rfl⟩⟩)
  go_ret2
  exact⟨_,rfl,yab (Below.refl _ _) _,EntB.nil _ _⟩
 rw[if_neg hn]
 have hi:decide ((4096:Int)<(n:Int))=false:=by simp;omega
 have hi3:n≤4096:=by omega
 obtain⟨X,hX⟩:∃ X,ydj b n 0 q [] []=X:=⟨_,rfl⟩
 rw[hX]
 generalize hRR:(if X.2.2≠0 then (([]:List (List Int)),X.2.2) else if X.2.1<b.length then ([],3) else (X.1,0))=RR
 have HRR:=Lib.hid hRR;have HX:=Lib.hid hX;have HG:=Lib.hid hg0;have HTX:=Lib.hid htx;have HTY:=Lib.hid hty;have HPL:=Lib.hid hpl
 clear h hb hg0 hle0 hlt hv0 htx hty hpl hX hRR
 go_enter Tryz.func71,Tryz.ntmps71
 go_wp2_with (go_at_call 39;refine(HG.out).mono ?_;rintro e w1 ⟨rfl,⟨m1,rfl⟩⟩)
 go_loopw [5,6,7,8,9,24] (fun v5 _ v7 v8 _ vi wq=>∃ (i p:Nat) (la:List Int) (A8:Option Addr) (c8:Nat) (vs:List Value) (ogs:List (Option Nat)) (out:List (List Int)) (A7:Option Addr) (c7:Nat),i≤n∧vi=.int .u64 i∧v5=.int .i64 p∧p≤b.length∧v8=.slice A8 la.length c8∧la.length≤c8∧la.length≤200∧out.length=i∧v7=.slice A7 i c7∧RowKit.Hid (ydj b (n-i) i p la out=X)∧RowKit.Hid (Kd.C (Kd.int .u8) wq A8 la.length la)∧RowKit.Hid (EntX wq w.heap.size wq.heap.size (.slice A7 i c7) vs ogs out)∧RowKit.Hid (Below w.heap.size w wq)) (fun _ _ _ _ _ vi _=>n-(intOf vi).toNat)
 case atStart=>exact⟨0,q,[],none,0,[],[],[],none,0,Nat.zero_le _,rfl,rfl,hle,rfl,Nat.le_refl _,by decide,rfl,rfl,HX,Lib.hid (Kd.C_nil _ _),Lib.hid ⟨yhj _ _ _ _,rfl,fun i j g _ h=>by simp at h,fun i g h=>by simp at h,fun i h=>absurd h (by simp)⟩,Lib.hid (yab (Below.refl _ _) _)⟩
 case round =>
  obtain⟨i,p,la,A8,c8,vs,ogs,out,A7,c7,hi9,rfl,rfl,hp,rfl,hc8,hla,hol,rfl,hXi,HC8,HEN,HBR⟩:=hrel
  by_cases hlt:i<n
  ·obtain⟨m,hm⟩:∃ m,n-i=m+1:=⟨n-i-1,by omega⟩
   have hm2:n-(i+1)=m:=by omega
   have hX1:=hXi.out
   rw[hm] at hX1
   unfold ydj at hX1
   by_cases h16:i%16=0
   ·rw[decide_eq_true h16] at hX1
    have hr1:(i:Int)%16=0:=by omega
    have hr2:Int.tmod (i:Int) 16=0:=by rw[Int.tmod_eq_emod_of_nonneg (by omega)];exact hr1
    have ht:=HTY.out p hp A8 c8 la
    have hpp:=HPL.out p la true
    generalize yc3 b p la true=r at *
    obtain⟨s,p2,e2⟩:=r
    simp only at ht hpp hX1
    have HT:=Lib.hid ht
    by_cases he2:e2=0
    ·subst he2
     rw[if_neg (by decide)] at hX1
     obtain⟨hp2,hs2⟩:=hpp rfl
     obtain⟨i0,hi0,hz0,hz1,hz2⟩:=info_parts ygm
     have hvl:vs.length=i:=by have:=HEN.out.row.1;omega
     have HX1:=Lib.hid hX1;have HM2:=Lib.hid hm2;have HLT:=Lib.hid hlt;have HOL:=Lib.hid hol;have HP2:=Lib.hid hp2;have HS2:=Lib.hid hs2
     clear ht hpp hX1 hXi hm hm2 hlt hp2 hs2
     go_upto_region 14 with (go_at_call 112;refine(HT.out _ HBR.out HC8.out hc8 hla).mono ?_;rintro e w5 ⟨A5,c5,og,rfl,hb5,hB5⟩;simp only at hB5)
     have hen5:=HEN.out.below (fun k hk=>hb5.block k hk)
     have hby:=(hB5 trivial).lower HBR.out.size
     have hfr:∀ g,og=some g→∀ j:Nat,ogs[j]?≠some (some g):=fun g hg j hj=>by
      have h1:=HEN.out.low j g hj
      have h2:=(hB5 trivial).base_le g hg
      omega
     have hb6:=yad HBR.out HBR.out.size hb5
     obtain⟨A5',c5',he5,hc5,hC5⟩:=hby.reads
     injection he5 with he51 he52 he53
     subst he51;subst he53
     skip
     have HE5:=Lib.hid hen5;have HBY:=Lib.hid hby;have HFR:=Lib.hid hfr;have HB6:=Lib.hid hb6;have HC5:=Lib.hid hC5;have HHC:=Lib.hid hc5
     have hrow5:w5.ownsRow w.heap.size 25 1 (.slice A7 i c7) i vs:=by have:=HE5.out.row;rwa [hol] at this
     have HROW:=Lib.hid hrow5;have HSZ5:=Lib.hid hb5.size
     clear hen5 hby hfr hb6 hC5 hb5 hB5 hc5 hrow5
     go_wp2_with (at_builtin;refine wpList_append_own _ rfl _ _ 46 rfl w.heap.size 25 i0 (.slice none 0 0) 1 24 Tryz.underlying46 hi0 hz0 hz1 hz2 rfl (by decide) _ _ _ rfl (yhr HROW.out _) ⟨w5.heap.size,0,none⟩ 1 1 [.slice A5 s.length c5] rfl (by simp) (cell_one_new _ _ _) (by simp [Value.oneCell']) (by unfold maxLen;omega) (by omega) (Nat.le_trans HB6.out.size (by simp)) ?_;intro v7 w7 hown7 hgrow7 hnil7)
     obtain⟨A9,c9,rfl⟩:=yku hown7
     have hbal:=yak (Below.refl w5.heap.size w5) (.cells #[.slice A5 s.length c5] 25)
     have hE7:=EntX.push (og:=og) (s:=s) (HE5.out.below (fun k hk=>hbal.block k hk)) (Nat.le_trans HSZ5.out hbal.size) (HBY.out.keep (fun g hg=>hbal.block g (HBY.out.lt g hg))) HFR.out (by rw[hol];exact hown7) hgrow7
     have hb7:Below w.heap.size w _:=(yak HB6.out (.cells #[.slice A5 s.length c5] 25)).grown hgrow7 (by simp;have:=HB6.out.size;omega) (fun k hk=>yd1 HROW.out k hk)
     have hC7:Kd.C (Kd.int .u8) w7 A5 s.length s:=by
      obtain⟨u',og',h1,_,h3⟩:=hE7.each out.length (by simp)
      rw[hol,← hvl] at h1
      have hu:(vs++[Value.slice A5 s.length c5])[vs.length]?=some (.slice A5 s.length c5):=by simp
      rw[hu] at h1
      injection h1 with h1
      subst h1
      rw[List.getElem_append_right (Nat.le_refl _)] at h3
      simp only[Nat.sub_self,List.getElem_cons_zero] at h3
      obtain⟨A',c',e,_,hC⟩:=h3.reads
      injection e with e1 _ _
      rw[e1]
      exact hC
     have HE7:=Lib.hid hE7;have HB7:=Lib.hid hb7;have HC7:=Lib.hid hC7
     go_roundw
     case rel=>exact⟨i+1,p2,s,A5,c5,vs++[.slice A5 s.length c5],ogs++[og],out++[s],A9,c9,HLT.out,by go_num,rfl,HP2.out,rfl,HHC.out,HS2.out,by rw[List.length_append,HOL.out];rfl,rfl,Lib.hid (by rw[HM2.out];exact HX1.out),HC7,HE7,HB7⟩
     case measure=>have:=HLT.out;simp [intOf];omega
    ·rw[if_pos he2] at hX1
     have heb:(e2 == 0)=false:=by simpa using he2
     have HX1:=Lib.hid hX1;have HE2:=Lib.hid he2
     clear ht hpp hX1 hXi hm hm2
     go_wp2_with (go_at_call 112;refine(HT.out _ HBR.out HC8.out hc8 hla).mono ?_;rintro e w5 ⟨A5,c5,og,rfl,hb5,_⟩)
     go_ret2
     have hrr:=HRR.out
     rw[← HX1.out,if_pos HE2.out] at hrr
     subst hrr
     exact⟨_,rfl,yad HBR.out HBR.out.size hb5,EntB.nil _ _⟩
   ·rw[decide_eq_false h16] at hX1
    have hr1:¬ (i:Int)%16=0:=by omega
    have hr2:¬ Int.tmod (i:Int) 16=0:=by rw[Int.tmod_eq_emod_of_nonneg (by omega)];exact hr1
    have hr3:((i:Int)%16 == 0)=false:=by simpa using hr1
    have hr4:(Int.tmod (i:Int) 16 == 0)=false:=by simpa using hr2
    have ht:=HTX.out p hp A8 c8 la
    have hpp:=HPL.out p la false
    generalize yc3 b p la false=r at *
    obtain⟨s,p2,e2⟩:=r
    simp only at ht hpp hX1
    have HT:=Lib.hid ht
    by_cases he2:e2=0
    ·subst he2
     rw[if_neg (by decide)] at hX1
     obtain⟨hp2,hs2⟩:=hpp rfl
     obtain⟨i0,hi0,hz0,hz1,hz2⟩:=info_parts ygm
     have hvl:vs.length=i:=by have:=HEN.out.row.1;omega
     have HX1:=Lib.hid hX1;have HM2:=Lib.hid hm2;have HLT:=Lib.hid hlt;have HOL:=Lib.hid hol;have HP2:=Lib.hid hp2;have HS2:=Lib.hid hs2
     clear ht hpp hX1 hXi hm hm2 hlt hp2 hs2
     go_upto_region 14 with (go_at_call 112;refine(HT.out _ HBR.out HC8.out hc8 hla).mono ?_;rintro e w5 ⟨A5,c5,og,rfl,hb5,hB5⟩;simp only at hB5)
     have hen5:=HEN.out.below (fun k hk=>hb5.block k hk)
     have hby:=(hB5 trivial).lower HBR.out.size
     have hfr:∀ g,og=some g→∀ j:Nat,ogs[j]?≠some (some g):=fun g hg j hj=>by
      have h1:=HEN.out.low j g hj
      have h2:=(hB5 trivial).base_le g hg
      omega
     have hb6:=yad HBR.out HBR.out.size hb5
     obtain⟨A5',c5',he5,hc5,hC5⟩:=hby.reads
     injection he5 with he51 he52 he53
     subst he51;subst he53
     skip
     have HE5:=Lib.hid hen5;have HBY:=Lib.hid hby;have HFR:=Lib.hid hfr;have HB6:=Lib.hid hb6;have HC5:=Lib.hid hC5;have HHC:=Lib.hid hc5
     have hrow5:w5.ownsRow w.heap.size 25 1 (.slice A7 i c7) i vs:=by have:=HE5.out.row;rwa [hol] at this
     have HROW:=Lib.hid hrow5;have HSZ5:=Lib.hid hb5.size
     clear hen5 hby hfr hb6 hC5 hb5 hB5 hc5 hrow5
     go_wp2_with (at_builtin;refine wpList_append_own _ rfl _ _ 46 rfl w.heap.size 25 i0 (.slice none 0 0) 1 24 Tryz.underlying46 hi0 hz0 hz1 hz2 rfl (by decide) _ _ _ rfl (yhr HROW.out _) ⟨w5.heap.size,0,none⟩ 1 1 [.slice A5 s.length c5] rfl (by simp) (cell_one_new _ _ _) (by simp [Value.oneCell']) (by unfold maxLen;omega) (by omega) (Nat.le_trans HB6.out.size (by simp)) ?_;intro v7 w7 hown7 hgrow7 hnil7)
     obtain⟨A9,c9,rfl⟩:=yku hown7
     have hbal:=yak (Below.refl w5.heap.size w5) (.cells #[.slice A5 s.length c5] 25)
     have hE7:=EntX.push (og:=og) (s:=s) (HE5.out.below (fun k hk=>hbal.block k hk)) (Nat.le_trans HSZ5.out hbal.size) (HBY.out.keep (fun g hg=>hbal.block g (HBY.out.lt g hg))) HFR.out (by rw[hol];exact hown7) hgrow7
     have hb7:Below w.heap.size w _:=(yak HB6.out (.cells #[.slice A5 s.length c5] 25)).grown hgrow7 (by simp;have:=HB6.out.size;omega) (fun k hk=>yd1 HROW.out k hk)
     have hC7:Kd.C (Kd.int .u8) w7 A5 s.length s:=by
      obtain⟨u',og',h1,_,h3⟩:=hE7.each out.length (by simp)
      rw[hol,← hvl] at h1
      have hu:(vs++[Value.slice A5 s.length c5])[vs.length]?=some (.slice A5 s.length c5):=by simp
      rw[hu] at h1
      injection h1 with h1
      subst h1
      rw[List.getElem_append_right (Nat.le_refl _)] at h3
      simp only[Nat.sub_self,List.getElem_cons_zero] at h3
      obtain⟨A',c',e,_,hC⟩:=h3.reads
      injection e with e1 _ _
      rw[e1]
      exact hC
     have HE7:=Lib.hid hE7;have HB7:=Lib.hid hb7;have HC7:=Lib.hid hC7
     go_roundw
     case rel=>exact⟨i+1,p2,s,A5,c5,vs++[.slice A5 s.length c5],ogs++[og],out++[s],A9,c9,HLT.out,by go_num,rfl,HP2.out,rfl,HHC.out,HS2.out,by rw[List.length_append,HOL.out];rfl,rfl,Lib.hid (by rw[HM2.out];exact HX1.out),HC7,HE7,HB7⟩
     case measure=>have:=HLT.out;simp [intOf];omega
    ·rw[if_pos he2] at hX1
     have heb:(e2 == 0)=false:=by simpa using he2
     have HX1:=Lib.hid hX1;have HE2:=Lib.hid he2
     clear ht hpp hX1 hXi hm hm2
     go_wp2_with (go_at_call 112;refine(HT.out _ HBR.out HC8.out hc8 hla).mono ?_;rintro e w5 ⟨A5,c5,og,rfl,hb5,_⟩)
     go_ret2
     have hrr:=HRR.out
     rw[← HX1.out,if_pos HE2.out] at hrr
     subst hrr
     exact⟨_,rfl,yad HBR.out HBR.out.size hb5,EntB.nil _ _⟩
  ·obtain rfl:i=n:=by omega
   have hX1:=hXi.out
   rw[Nat.sub_self,ydj] at hX1
   subst hX1
   have hrr:=HRR.out
   simp only at hrr
   rw[if_neg (by decide)] at hrr
   by_cases hpb:p<b.length
   ·rw[if_pos hpb] at hrr
    have hpi:(p:Int)<(b.length:Int):=by omega
    subst hrr
    clear hXi HRR HX
    go_wp2
    go_ret2
    exact⟨_,rfl,HBR.out,EntB.nil _ _⟩
   ·rw[if_neg hpb] at hrr
    have hpi:decide ((p:Int)<(b.length:Int))=false:=by simp;omega
    have hpn:b.length≤p:=by omega
    subst hrr
    clear hXi HRR HX
    go_wp2
    go_ret2
    exact⟨_,rfl,HBR.out,HEN.out.entB⟩
theorem yq5 {b:List Int} (hb:Bys b):(yd9 b).1.length≤4096:=by
 by_cases h:(yd9 b).2=0
 ·exact(yjm hb h).2.2
 ·rw[yqk h];simp
theorem ymk {kind:Int}:yg9 kind 5:=by
 intro b n hb h c hc
 unfold yb6 at h hc
 rw[if_neg (by decide),if_neg (by decide),if_neg (by decide),if_neg (by decide)] at h hc
 obtain⟨h1,h2,h3⟩:=yf2 h
 rw[h3] at hc
 obtain⟨s,hs,rfl⟩:=List.mem_map.1 hc
 exact ykl (yql hb s hs) ((yjm hb h1).2.1 s hs)
theorem yop (kind:Int):yf1 kind 5:=by
 intro A c b n w h hc hb hl hn
 have hd:=yrk A c b w h hc hb hl
 have hlen:=yq5 hb
 have hcd:yb6 kind 5 b n=yc0 ((yd9 b).1.map yd2) (yd9 b).2 n:=by unfold yb6;rw[if_neg (by decide),if_neg (by decide),if_neg (by decide),if_neg (by decide)]
 rw[hcd]
 clear hcd
 generalize yd9 b=r at *
 obtain⟨es,er⟩:=r
 simp only at hd hlen ⊢
 have hf:=fun(w1:World) (v:Value) (h1:Below w.heap.size w w1) (h2:EntB w1 w.heap.size v es)=>ynt er h1 h2 hlen
 generalize es.map yd2=cs at *
 have HD:=Lib.hid hd;have HF:=Lib.hid hf
 clear h hb hd hf
 by_cases he:er=0
 ·subst he
  by_cases hm:cs.length=n
  ·have hX:yc0 cs 0 n=(cs,0):=yfi cs n hm
   rw[hX]
   subst hm
   clear hX
   go_enter Tryz.func41,Tryz.ntmps41
   go_wp2_with (first
    | (go_at_call 71;refine HD.out.mono ?_;rintro e w1 ⟨v1,rfl,hb1,hE1⟩)
    | (go_at_call 69;refine(HF.out _ _ hb1 hE1).mono ?_;rintro e w2 ⟨A2,c2,rfl,hb2,hC2⟩;have HC2:=Lib.hid hC2;clear hC2 hE1))
   go_ret2
   exact⟨_,rfl,hb2,fun _=>HC2.out⟩
  ·have hX:yc0 cs 0 n=([],5):=by unfold yc0;rw[if_neg (by decide),if_pos hm]
   rw[hX]
   have hmi:¬ (cs.length:Int)=(n:Int):=by omega
   have hmb:((cs.length:Int) == (n:Int))=false:=by simpa using hmi
   clear hX
   go_enter Tryz.func41,Tryz.ntmps41
   go_wp2_with (first
    | (go_at_call 71;refine HD.out.mono ?_;rintro e w1 ⟨v1,rfl,hb1,hE1⟩)
    | (go_at_call 69;refine(HF.out _ _ hb1 hE1).mono ?_;rintro e w2 ⟨A2,c2,rfl,hb2,hC2⟩;have HC2:=Lib.hid hC2;clear hC2 hE1))
   go_ret2
   exact⟨_,rfl,hb2,fun h=>absurd h (by decide)⟩
 ·have hX:yc0 cs er n=([],er):=by unfold yc0;rw[if_pos he]
  rw[hX]
  have heb:(er == 0)=false:=by simpa using he
  clear hX
  go_enter Tryz.func41,Tryz.ntmps41
  go_wp2_with (first
   | (go_at_call 71;refine HD.out.mono ?_;rintro e w1 ⟨v1,rfl,hb1,hE1⟩)
   | (go_at_call 69;refine(HF.out _ _ hb1 hE1).mono ?_;rintro e w2 ⟨A2,c2,rfl,hb2,hC2⟩;have HC2:=Lib.hid hC2;clear hC2 hE1))
  go_ret2
  exact⟨_,rfl,hb2,fun h=>absurd h he⟩
theorem reads_any {kind codec:Int} (hk:yd0 kind) (hf:ycz kind codec):yf1 kind codec:=by
 rcases hf with rfl|⟨_,rfl|rfl⟩|⟨_,rfl|rfl⟩
 ·exact ypo hk
 ·exact ymm kind
 ·exact yoc kind
 ·exact yqu kind
 ·exact yop kind
theorem yob {kind codec:Int} (hf:ycz kind codec):yg9 kind codec:=by
 rcases hf with rfl|⟨_,rfl|rfl⟩|⟨_,rfl|rfl⟩
 ·exact ymw
 ·exact yj7
 ·exact yl9
 ·exact yn7
 ·exact ymk
theorem bdec_any (kind:Int) (A:Option Addr) (c:Nat) (b:List Int) (w:World) (h:Kd.C (Kd.int .u8) w A b.length b) (hc:b.length≤c) (hb:Bys b) :
  Calls Tryz.prog 19 #[.int .i64 kind,.slice A b.length c] w (ydn w (yft kind b).1 (yft kind b).2):=by
 by_cases hk:yd0 kind
 ·exact ym7 kind A c b w h hc hb (fun hf=>reads_any hk hf) (fun hf=>yob hf)
 ·have h1:kind<1∨8<kind:=by unfold yd0 at hk;omega
  have hd:yft kind b=([],1):=by unfold yft;rw[if_pos h1]
  have h2:=ypb kind A c b w h1
  rw[hd]
  exact h2
end Go.Proofs.YteeikgjjgfdjgaaGreat.PK
end
section
namespace Go.Proofs.YteeikgjjgfdjgaaGreat.PK
open Go.RowKit Go.Maps YteeikgjjgfdjgaaGreatW.PrintWords YteeikgjjgfdjgaaGreatW.PrintLast YteeikgjjgfdjgaaGreatW.PrintMore
set_option linter.unusedVariables false
set_option linter.unusedSimpArgs false
theorem ymb {kind codec:Int} {cs:List Cel} (hok:∀ c∈cs,yew c) (h:(ydb kind codec cs).2=0):Bys (ydb kind codec cs).1:=by
 obtain⟨hk,hf,hc,hb,hl,he,_⟩:=yit h
 have hfine:=yk6 (kind:=kind) (by unfold yd0 at hk;omega) hc hok
 rw[he]
 exact sealS_bys ((ykp hfine.len hf).1.append (ykn hfine hf).1)
theorem u32_wf {p:Int} (h:(Lit.int .u32 p).wf=true):0≤p∧p<4294967296:=by
 simp only[Lit.wf,IntKind.min,IntKind.max,IntKind.signed,IntKind.bits,Bool.and_eq_true,decide_eq_true_eq] at h
 simp at h
 omega
theorem ypp {kind codec:Int} {cs:List Cel} (hok:∀ c∈cs,yew c) (h:(ydb kind codec cs).2=0) {t:List Int} (htl:t.length=(ydb kind codec cs).1.length) (htb:Bys t) {p a:Nat} (hp:p<4294967296)
  (hx:le t=le (ydb kind codec cs).1 ^^^ (p*2^a)) (hfit:p*2^a<2^(8*(ydb kind codec cs).1.length)) (hne:t≠(ydb kind codec cs).1):yft kind t=([],6):=by
 have hb:=ymb hok h
 have hd:=yjp hok h
 obtain⟨hk,_⟩:=yit h
 have hlen:=ymh kind codec cs
 have hs:ydi (ydb kind codec cs).1=true:=by
  cases hs:ydi (ydb kind codec cs).1
  ·unfold yft at hd
   rw[if_neg (by unfold yd0 at hk;omega),if_neg (by omega),if_pos hs] at hd
   exact absurd (congrArg Prod.snd hd) (show ¬ ((6:Int)=0) by decide)
  ·rfl
 have ht:ydi t=false:=by
  cases ht:ydi t
  ·rfl
  ·exact absurd (run_told hb htb hs ht htl hx hp hfit) hne
 unfold yft
 rw[if_neg (by unfold yd0 at hk;omega),if_neg (by omega),if_pos ht]
theorem blocktells_any (kind codec:Int) (A:Option Addr) (c:Nat) (cs:List Cel) (at_ p:Int) (w:World) (hr:Kd.C k53 w A cs.length cs) (hc:cs.length≤c) (hok:∀ c∈cs,yew c) (hl:cs.length*40≤140737488351232) (_:(Lit.int .i64 at_).wf=true) (hp0:(Lit.int .u32 p).wf=true) :
  Calls Tryz.prog 8 #[.int .i64 kind,.int .i64 codec,.slice A cs.length c,.int .i64 at_,.int .u32 p] w fun e w'=>e=.returned (.bool true)∧Hold w.heap.size w w':=by
 have hp:=u32_wf hp0
 obtain⟨ka,hka⟩:=(yp8 cs (by omega) (fun c hc=>(hok c hc).2.2)).ex
 have hre:=fun(w2:World) (hb:Below w.heap.size w w2)=>renc_any kind codec A c cs w2 hok (Kd.C_below hr hb) hc (by omega)
 have hen:=fun(w2:World) (hb:Below w.heap.size w w2)=>yjy (kind:=kind) (codec:=codec) hok (Kd.C_below hr hb) hc (fun hf=>yjn hf (Kd.C_below hr hb) hc)
 have hdb:=fun h=>yjp (kind:=kind) (codec:=codec) hok h
 have hbys:=fun h=>ymb (kind:=kind) (codec:=codec) hok h
 have htp:=fun h (t:List Int) h1 h2 (a:Nat) h3 h4 h5=>@ypp kind codec cs hok h t h1 h2 p.toNat a (by omega) h3 h4 h5
 have hlen:=ymh kind codec cs
 generalize ydb kind codec cs=r at *
 obtain⟨b,er⟩:=r
 simp only at hre hen hdb hbys htp hlen
 have HR:=Lib.hid hr;have HKA:=Lib.hid hka;have HRE:=Lib.hid hre;have HEN:=Lib.hid hen
 by_cases he:er=0
 rotate_left
 ·have heb:(er == 0)=false:=by simpa using he
  clear hr hka hre hen hdb hbys htp hok hp0 he
  go_enter Tryz.func8,Tryz.ntmps8
  go_wp2_with (first
   | (go_at_call 9;refine(ykt _).mono ?_;rintro e w1 ⟨rfl,hb1⟩)
   | (go_at_call 11;refine(HEN.out _ hb1).mono ?_;rintro e w2 ⟨v2,rfl,hR2,hb2⟩;obtain⟨A2,c2,rfl,hc2,hC2⟩:=Kd.R_reads hR2;have hB2:=yad hb1 hb1.size hb2)
   | (go_at_call 12;refine(HRE.out _ hB2).mono ?_;rintro e w3 ⟨v3,rfl,hR3,hb3⟩;obtain⟨A3,c3,rfl⟩:=Kd.R_slice hR3;have hB3:=yad hB2 hB2.size hb3))
  go_ret
  exact⟨rfl,Hold.of_below hB3⟩
 subst he
 have h1:=hdb rfl
 have h2:=hbys rfl
 have htp:=htp rfl
 obtain⟨t,ht,htl,htb,hte⟩:=turn_law h2 (by omega) at_ hp
 obtain⟨kt,hkt⟩:=ht.ex
 have hsm:=ylw t b (by omega) (t.length+1) (Nat.le_refl _)
 have hdt:=fun(A:Option Addr) (c:Nat) (w:World) (h:Kd.C (Kd.int .u8) w A t.length t) (hc:t.length≤c)=>bdec_any kind A c t w h hc htb
 have hd6:t≠b→yft kind t=([],6):=fun hne=>by
  rcases hte with h|⟨a,h3,h4⟩
  ·exact absurd h hne
  ·exact htp t htl htb a h3 h4 hne
 have HKT:=Lib.hid hkt;have HSM:=Lib.hid hsm
 clear hte htp hdb hbys
 by_cases htb2:t=b
 ·rw[decide_eq_true htb2] at hsm
  have HS:=Lib.hid hsm
  subst htb2
  rw[h1] at hdt
  have HD:=Lib.hid hdt
  clear hr hka hre hen hdt h1 h2 htb hd6 hkt hsm hok hp0 HSM
  go_enter Tryz.func8,Tryz.ntmps8
  go_upto_region 7 with (first
   | (go_at_call 9;refine(ykt _).mono ?_;rintro e w1 ⟨rfl,hb1⟩)
   | (go_at_call 11;refine(HEN.out _ hb1).mono ?_;rintro e w2 ⟨v2,rfl,hR2,hb2⟩;obtain⟨A2,c2,rfl,hc2,hC2⟩:=Kd.R_reads hR2;have hB2:=yad hb1 hb1.size hb2))
  have HC2:=Lib.hid hC2;have HB2:=Lib.hid hB2
  clear hb1 hb2 hR2 hC2 hB2 HEN HRE
  go_upto_region 8 with (go_at_call 25;refine(yar.calls kt A2 c2 t at_ p t _ HC2.out hc2 HKT.out).mono ?_;rintro e w3 ⟨v3,rfl,hR3,hb3⟩;obtain⟨A3,c3,rfl,hc3,hC3⟩:=Kd.R_reads hR3)
  have HC3:=Lib.hid hC3;have HB3:=Lib.hid (yad HB2.out HB2.out.size hb3);have HC23:=Lib.hid (Kd.C_below HC2.out hb3)
  clear hR3 hC3 hb3 HC2 HB2 HKT
  go_upto_region 9 with (go_at_call 19;refine(HD.out A3 c3 _ HC3.out hc3).mono ?_;rintro e w4 ⟨v4,rfl,hb4,hq4,_⟩;obtain⟨A4,c4,rfl,hc4,hC4⟩:=(hq4 rfl).reads)
  have HB4:=Lib.hid (yad HB3.out HB3.out.size hb4);have HC24:=Lib.hid (Kd.C_below HC23.out hb4);have HC34:=Lib.hid (Kd.C_below HC3.out hb4);have HC4:=Lib.hid hC4;clear hC4 hq4
  clear hb4 HC23 HC3 HB3 HD
  go_upto_region 10 with (go_at_call 17;refine(yay.calls (t.length+1) A3 c3 t A2 c2 t true _ HC34.out hc3 HC24.out hc2 HS.out).mono ?_;rintro e w5 ⟨rfl,hD5⟩)
  have HB5:=Lib.hid (yad HB4.out HB4.out.size hD5.below);have HC45:=Lib.hid (Kd.C_below HC4.out hD5.below);clear HC4
  clear hD5 HC24 HC34 HB4 HS
  go_wp2_with (go_at_call 14;refine(ya2.calls ka A4 c4 cs A c cs true _ HC45.out hc4 (Kd.C_below HR.out HB5.out) hc HKA.out).mono ?_;rintro e w6 ⟨rfl,hb6⟩)
  go_ret
  exact⟨rfl,Hold.of_below (yad HB5.out HB5.out.size hb6)⟩
 ·rw[decide_eq_false htb2] at hsm
  have HS:=Lib.hid hsm
  simp only[hd6 htb2] at hdt
  have HD:=Lib.hid hdt
  clear hr hka hre hen hdt h1 h2 htb hd6 hkt hsm hok hp0 HSM htb2 htl
  go_enter Tryz.func8,Tryz.ntmps8
  go_upto_region 7 with (first
   | (go_at_call 9;refine(ykt _).mono ?_;rintro e w1 ⟨rfl,hb1⟩)
   | (go_at_call 11;refine(HEN.out _ hb1).mono ?_;rintro e w2 ⟨v2,rfl,hR2,hb2⟩;obtain⟨A2,c2,rfl,hc2,hC2⟩:=Kd.R_reads hR2;have hB2:=yad hb1 hb1.size hb2))
  have HC2:=Lib.hid hC2;have HB2:=Lib.hid hB2
  clear hb1 hb2 hR2 hC2 hB2 HEN HRE
  go_upto_region 8 with (go_at_call 25;refine(yar.calls kt A2 c2 b at_ p t _ HC2.out hc2 HKT.out).mono ?_;rintro e w3 ⟨v3,rfl,hR3,hb3⟩;obtain⟨A3,c3,rfl,hc3,hC3⟩:=Kd.R_reads hR3)
  have HC3:=Lib.hid hC3;have HB3:=Lib.hid (yad HB2.out HB2.out.size hb3);have HC23:=Lib.hid (Kd.C_below HC2.out hb3)
  clear hR3 hC3 hb3 HC2 HB2 HKT
  go_upto_region 9 with (go_at_call 19;refine(HD.out A3 c3 _ HC3.out hc3).mono ?_;rintro e w4 ⟨v4,rfl,hb4,_,hq4⟩;have hv4:=hq4 (show(6:Int)≠0 by decide);subst hv4)
  have HB4:=Lib.hid (yad HB3.out HB3.out.size hb4);have HC24:=Lib.hid (Kd.C_below HC23.out hb4);have HC34:=Lib.hid (Kd.C_below HC3.out hb4)
  clear hb4 HC23 HC3 HB3 HD
  go_wp2_with (go_at_call 17;refine(yay.calls (t.length+1) A3 c3 t A2 c2 b false _ HC34.out hc3 HC24.out hc2 HS.out).mono ?_;rintro e w5 ⟨rfl,hD5⟩)
  go_ret
  exact⟨rfl,Hold.of_below (yad HB4.out HB4.out.size hD5.below)⟩
end Go.Proofs.YteeikgjjgfdjgaaGreat.PK
end
