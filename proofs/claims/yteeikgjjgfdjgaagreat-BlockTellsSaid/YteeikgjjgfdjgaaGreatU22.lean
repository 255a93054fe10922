/-
  Parts of the proof: Bt, Ca, Cr.
-/
import Derived.Test.YteeikgjjgfdjgaaGreatU21
import Derived.Lib.Zigzag
import Derived.Laws.BitsAllLaws
section
namespace Go.Proofs.YteeikgjjgfdjgaaGreat.PK
open Go.RowKit
set_option linter.unusedVariables false
set_option linter.unusedSimpArgs false
theorem ydq {cs:List Cel} {c:Cel}:c∈ydd cs↔c∈cs∧c.f0=false:=by unfold ydd;simp
theorem yik (cs:List Cel):Fit 1 (cs.map ych):=by
 intro u hu
 obtain⟨c,_,rfl⟩:=List.mem_map.1 hu
 unfold ych
 split <;> decide
theorem widS_one {us:List Int} (h:Fit 1 us) (h1:(1:Int)∈us):widS us≠0:=by
 intro e
 have hf:=(yly (w:=0) (Fit.u64 (by decide) h) (by decide)).1 (by omega)
 have:=(hf 1 h1).2
 exact absurd this (by decide)
theorem widS_zero {us:List Int} (h:Fit 1 us) (h1:widS us≠0):(1:Int)∈us:=by
 refine Decidable.byContradiction fun hn=>h1 ?_
 have:Fit 0 us:=by
  intro u hu
  have h2:=h u hu
  have h3:u≠1:=fun e=>hn (e▸hu)
  have h4:((2:Int)^1)=2:=rfl
  have h5:((2:Int)^0)=1:=rfl
  omega
 have:=(yly (w:=0) (Fit.u64 (by decide) h) (by decide)).2 this
 omega
theorem nulls_fwd {b Y:List Int} {p:Nat} {cs:List Cel} (h:b.drop p=ye7 cs++Y):yce b p cs.length=(cs.map ych,p+(ye7 cs).length,0):=by
 unfold ye7 at h ⊢
 by_cases hn:∃ c∈cs,c.f0=true
 ·rw[if_pos hn] at h ⊢
  rw[List.cons_append] at h
  obtain⟨h1,h2,h3⟩:=yk9 h
  have hl:(ydg 1 (cs.map ych)).length=(cs.length+7) / 8:=by rw[yij,List.length_map,Nat.one_mul]
  have ht:(b.drop (p+1)).take ((cs.length+7) / 8)=ydg 1 (cs.map ych):=by rw[h3,List.take_append_of_le_length (by omega),List.take_of_length_le (by omega)]
  have hle:(cs.length+7) / 8≤b.length-p-1:=by
   have:=congrArg List.length h3
   rw[List.length_drop,List.length_append,hl] at this
   omega
  have hu:=yi3 (yik cs)
  rw[List.length_map] at hu
  have hw:widS (cs.map ych)≠0:=widS_one (yik cs) (by obtain⟨c,hc,e⟩:=hn;exact List.mem_map.2 ⟨c,hc,by unfold ych;rw[if_pos e]⟩)
  unfold yce
  rw[if_neg (by omega),h2,if_neg (by decide),if_neg (by decide),if_neg (by omega),ht,hu]
  simp only
  rw[if_neg (by simp),if_neg hw,List.length_cons,hl]
  rw[Prod.mk.injEq,Prod.mk.injEq]
  exact⟨rfl,by omega,rfl⟩
 ·rw[if_neg hn] at h ⊢
  rw[List.cons_append] at h
  obtain⟨h1,h2,h3⟩:=yk9 h
  unfold yce
  rw[if_neg (by omega),h2,if_neg (by decide),if_pos rfl]
  rw[Prod.mk.injEq,Prod.mk.injEq]
  refine⟨?_,rfl,rfl⟩
  refine(List.eq_replicate_iff.2 ⟨by simp,fun u hu=>?_⟩).symm
  obtain⟨c,hc,rfl⟩:=List.mem_map.1 hu
  unfold ych
  rw[if_neg fun e=>hn ⟨c,hc,e⟩]
theorem nulls_bwd {b:List Int} (hb:Bys b) {p n:Nat} (h:(yce b p n).2.2=0) :
  (yce b p n).1.length=n∧(∀ u∈(yce b p n).1,u=0∨u=1)∧(yce b p n).2.1≤b.length∧b.drop p=(if (1:Int)∈(yce b p n).1 then 1::ydg 1 (yce b p n).1 else [0])++b.drop (yce b p n).2.1:=by
 unfold yce at h ⊢
 by_cases h1:b.length≤p
 ·rw[if_pos h1] at h;exact absurd h (by decide)
 rw[if_neg h1] at h ⊢
 have hp:b.getD p 0=b[p]:=by rw[List.getD_eq_getElem?_getD,List.getElem?_eq_getElem (by omega),Option.getD_some]
 have hx:=hb b[p] (List.getElem_mem _)
 rw[hp] at h ⊢
 have hdc:b.drop p=b[p]::b.drop (p+1):=List.drop_eq_getElem_cons _
 by_cases h2:1<b[p]
 ·rw[if_pos h2] at h;exact absurd h (by decide)
 rw[if_neg h2] at h ⊢
 by_cases h3:b[p]=0
 ·rw[if_pos h3]
  refine⟨by simp,fun u hu=>.inl (List.eq_of_mem_replicate hu),by simp only;omega,?_⟩
  rw[if_neg (fun hm=>absurd (List.eq_of_mem_replicate hm) (by decide)),hdc,h3]
  rfl
 rw[if_neg h3] at h ⊢
 have h1p:b[p]=1:=by omega
 by_cases h4:b.length-p-1<(n+7) / 8
 ·rw[if_pos h4] at h;exact absurd h (by decide)
 rw[if_neg h4] at h ⊢
 by_cases h5:(yci ((b.drop (p+1)).take ((n+7) / 8)) 1 n).2=0
 rotate_left
 ·rw[if_pos h5] at h;exact absurd h h5
 rw[if_neg (by simpa using h5)] at h ⊢
 by_cases h6:widS (yci ((b.drop (p+1)).take ((n+7) / 8)) 1 n).1=0
 ·rw[if_pos h6] at h;exact absurd h (by decide)
 rw[if_neg h6]
 simp only
 obtain⟨k1,k2,k3⟩:=ygf ((hb.drop (p+1)).take ((n+7) / 8)) (us:=(yci ((b.drop (p+1)).take ((n+7) / 8)) 1 n).1) (Prod.ext rfl h5)
 refine⟨k1,fun u hu=>?_,by omega,?_⟩
 ·have:=k2 u hu
  have h7:((2:Int)^1)=2:=rfl
  omega
 ·rw[if_pos (widS_zero k2 h6),k3,hdc,h1p,List.cons_append,show b.drop (p+1+(n+7) / 8)=(b.drop (p+1)).drop ((n+7) / 8) from by rw[List.drop_drop],List.take_append_drop]
theorem yom (cs:List Cel):ybv (cs.map ych)=(ydd cs).length:=by
 induction cs with
 | nil=>rfl
 | cons c cs ih =>
  unfold ybv ydd at ih ⊢
  rw[List.map_cons,List.count_cons,List.filter_cons,ih]
  unfold ych
  cases c.f0 <;> simp
theorem ypv {cs:List Cel} (h:∀ c∈cs,c.f0=true→c=ye6):yd5 (cs.map ych) (ydd cs)=cs:=by
 induction cs with
 | nil=>rfl
 | cons c cs ih =>
  have ih:=ih (fun d hd=>h d (by simp [hd]))
  rw[List.map_cons]
  cases hc:c.f0 with
  | true =>
   have e1:ych c=1:=by unfold ych;rw[if_pos hc]
   have e2:ydd (c::cs)=ydd cs:=by unfold ydd;rw[List.filter_cons,if_neg (by simp [hc])]
   rw[e1,e2,yd5,if_pos rfl,ih,← h c (by simp) hc]
  | false =>
   have e1:ych c=0:=by unfold ych;rw[if_neg (by simp [hc])]
   have e2:ydd (c::cs)=c::ydd cs:=by unfold ydd;rw[List.filter_cons,if_pos (by simp [hc])]
   rw[e1,e2,yd5,if_neg (by decide),List.headD_cons,List.tail_cons,ih]
def ycw (kind:Int) (c:Cel):Prop:=if kind≤6 then c=ye1 c.f1∧I64 c.f1 else c=yd2 c.f2∧c.f2.length≤200
theorem yi6 {kind:Int} {c:Cel} (h:yd3 kind c=0) (ok:yew c) (h0:c.f0=false):ycw kind c:=by
 unfold yd3 at h
 unfold ycw
 split at h
 ·exact absurd h (by decide)
 rw[if_neg (by simp [h0])] at h
 obtain⟨f0,f1,f2⟩:=c
 simp only at h0 h ⊢
 subst h0
 by_cases hk:kind≤6
 ·rw[if_pos hk] at h ⊢
  by_cases hl:0<f2.length
  ·rw[if_pos hl] at h;exact absurd h (by decide)
  ·have:f2=[]:=List.eq_nil_of_length_eq_zero (by omega)
   subst this
   exact⟨rfl,ok.1⟩
 ·rw[if_neg hk] at h ⊢
  by_cases h1:f1=0
  ·subst h1
   rw[if_neg (by simp)] at h
   by_cases hl:200<f2.length
   ·rw[if_pos hl] at h;exact absurd h (by decide)
   ·exact⟨rfl,by omega⟩
  ·rw[if_pos h1] at h;exact absurd h (by decide)
theorem yp5 {kind:Int} {c:Cel} (h:yd3 kind c=0) (h0:c.f0=true):c=ye6:=by
 unfold yd3 at h
 by_cases hk:kind<1∨8<kind
 ·rw[if_pos hk] at h;exact absurd h (by decide)
 rw[if_neg hk,if_pos h0] at h
 obtain⟨f0,f1,f2⟩:=c
 simp only at h0 h
 subst h0
 split at h
 ·exact absurd h (by decide)
 ·rename_i hn
  have h1:f1=0:=Decidable.byContradiction fun e=>hn (.inl e)
  have h2:f2=[]:=List.eq_nil_of_length_eq_zero (Nat.eq_zero_of_not_pos fun e=>hn (.inr e))
  subst h1 h2
  rfl
theorem yqr {kind:Int} {b:List Int}:∀ (vs:List Cel) (p:Nat) (out:List Cel) (Y:List Int),(∀ c∈vs,ycw kind c)→b.drop p=(vs.map (yds kind)).flatten++Y →
  ydk kind b vs.length p out=(out++vs,p+((vs.map (yds kind)).flatten).length,0):=by
 intro vs
 induction vs with
 | nil=>intro p out Y _ _;simp [ydk]
 | cons c vs ih =>
  intro p out Y hc hd
  have h0:=hc c (by simp)
  rw[List.map_cons,List.flatten_cons,List.append_assoc] at hd
  rw[List.length_cons,ydk,List.map_cons,List.flatten_cons]
  unfold ycw at h0
  by_cases hk:kind≤6
  ·rw[if_pos hk] at h0
   obtain⟨h1,h2⟩:=h0
   have e:yds kind c=vput (ycg c.f1):=by unfold yds;rw[if_pos hk]
   rw[e] at hd ⊢
   have g:=yfn (yfd h2) hd
   rw[g]
   simp only
   rw[if_neg (by simp),if_pos hk,yi1,← h1,ih _ _ Y (fun d hd=>hc d (by simp [hd])) (yd6 hd)]
   simp
   omega
  ·rw[if_neg hk] at h0
   obtain⟨h1,h2⟩:=h0
   have e:yds kind c=vput c.f2.length++c.f2:=by unfold yds;rw[if_neg hk]
   rw[e] at hd ⊢
   rw[List.append_assoc] at hd
   have g:=yfn (by omega) hd
   have hd2:=yd6 hd
   have hle:c.f2.length≤b.length-(p+(vput c.f2.length).length):=by
    have:=congrArg List.length hd2
    rw[List.length_drop,List.length_append] at this
    omega
   rw[g]
   simp only
   rw[if_neg (by simp),if_neg hk,if_neg (by omega),if_neg (by omega),hd2,List.take_append_of_le_length (Nat.le_refl _),List.take_of_length_le (Nat.le_refl _),← h1,ih _ _ Y (fun d hd=>hc d (by simp [hd])) (yd6 hd2)]
   simp
   omega
theorem yrm {kind:Int} {b:List Int} (hb:Bys b):∀ (n p:Nat) (out:List Cel),p≤b.length→(ydk kind b n p out).2.2=0 →
  ∃ vs,vs.length=n∧(∀ c∈vs,ycw kind c∧c.f0=false)∧(ydk kind b n p out).1=out++vs∧(ydk kind b n p out).2.1≤b.length∧b.drop p=(vs.map (yds kind)).flatten++b.drop (ydk kind b n p out).2.1:=by
 intro n
 induction n with
 | zero=>intro p out hp h;exact⟨[],rfl,fun c hc=>(by cases hc),by simp [ydk],hp,by simp [ydk]⟩
 | succ n ih =>
  intro p out hp h
  rw[ydk] at h ⊢
  rcases hg:vget b p with ⟨u,q,e⟩
  rw[hg] at h
  simp only at h ⊢
  by_cases he:e=0
  rotate_left
  ·rw[if_pos he] at h;exact absurd h he
  subst he
  rw[if_neg (by simp)] at h ⊢
  obtain⟨k1,k2,k3⟩:=yes hb hg
  have hu:u<18446744073709551616:=by have:=ye4 hb (p:=p) (by rw[hg]);rw[hg] at this;exact this
  by_cases hk:kind≤6
  ·rw[if_pos hk] at h ⊢
   obtain⟨vs,e1,e2,e3,e4,e5⟩:=ih q _ k2 h
   refine⟨ye1 (ydh u)::vs,by simp [e1],fun c hc=>?_,by rw[e3];simp,e4,?_⟩
   ·rcases List.mem_cons.1 hc with rfl|hc
    ·exact⟨by unfold ycw;rw[if_pos hk];exact⟨rfl,yhf hu⟩,rfl⟩
    ·exact e2 c hc
   ·rw[List.map_cons,List.flatten_cons,List.append_assoc,← e5]
    unfold yds
    rw[if_pos hk]
    show _=vput (ycg (ydh u))++_
    rw[yi4,k3]
  ·rw[if_neg hk] at h ⊢
   by_cases h2:200<u
   ·rw[if_pos h2] at h;exact absurd h (by decide)
   rw[if_neg h2] at h ⊢
   by_cases h3:b.length-q<u
   ·rw[if_pos h3] at h;exact absurd h (by decide)
   rw[if_neg h3] at h ⊢
   obtain⟨vs,e1,e2,e3,e4,e5⟩:=ih (q+u) _ (by omega) h
   have hl:((b.drop q).take u).length=u:=by rw[List.length_take,List.length_drop];omega
   refine⟨yd2 ((b.drop q).take u)::vs,by simp [e1],fun c hc=>?_,by rw[e3];simp,e4,?_⟩
   ·rcases List.mem_cons.1 hc with rfl|hc
    ·exact⟨by unfold ycw;rw[if_neg hk];exact⟨rfl,by show((b.drop q).take u).length≤200;omega⟩,rfl⟩
    ·exact e2 c hc
   ·rw[List.map_cons,List.flatten_cons,List.append_assoc,← e5]
    unfold yds
    rw[if_neg hk]
    show _=(vput ((b.drop q).take u).length++(b.drop q).take u)++_
    rw[hl,k3,List.append_assoc,← List.drop_drop,List.take_append_drop]
theorem ynk {kind:Int} {vs:List Cel} (hk:kind≤6) (h:∀ c∈vs,ycw kind c):(vs.map (·.f1)).map ye1=vs:=by
 rw[List.map_map]
 conv=>rhs;rw[← List.map_id vs]
 refine List.map_congr_left fun c hc=>?_
 have:=h c hc
 unfold ycw at this
 rw[if_pos hk] at this
 exact this.1.symm
theorem ymq {kind:Int} {vs:List Cel} (hk:¬ kind≤6) (h:∀ c∈vs,ycw kind c):(vs.map (·.f2)).map yd2=vs:=by
 rw[List.map_map]
 conv=>rhs;rw[← List.map_id vs]
 refine List.map_congr_left fun c hc=>?_
 have:=h c hc
 unfold ycw at this
 rw[if_neg hk] at this
 exact this.1.symm
theorem yfi (l:List Cel) (n:Nat) (h:l.length=n):yc0 l 0 n=(l,0):=by
 unfold yc0
 rw[if_neg (by simp),if_neg (by simp [h])]
theorem ym5 {kind codec:Int} {cs:List Cel} (hf:ycz kind codec) (hl:cs.length≤4096) (hc:∀ c∈ydd cs,ycw kind c) :
  (ycj kind codec cs).2=0∧yb6 kind codec (ycj kind codec cs).1 (ydd cs).length=(ydd cs,0):=by
 have htl:(ydd cs).length≤cs.length:=List.length_filter_le _ _
 have hnl:(ycm cs).length=(ydd cs).length:=by unfold ycm;rw[List.length_map]
 have hxl:(ybp cs).length=(ydd cs).length:=by unfold ybp;rw[List.length_map]
 unfold ycj yb6
 rcases hf with rfl|⟨hk,rfl|rfl⟩|⟨hk,rfl|rfl⟩
 ·simp only[show ¬ ((1:Int)=2) by decide,show ¬ ((1:Int)=3) by decide,show ¬ ((1:Int)=4) by decide,show ¬ ((1:Int)=5) by decide,if_false,if_true]
  refine⟨trivial,?_⟩
  unfold ygv
  have:=yqr (kind:=kind) (b:=yda kind cs) (ydd cs) 0 [] [] hc (by rw[List.append_nil];rfl)
  rw[this]
  simp only
  rw[if_neg (by simp),if_neg (by unfold yda;omega)]
  rfl
 ·simp only[show ¬ ((2:Int)=1) by decide,if_false,if_true]
  have hi:∀ v∈ycm cs,I64 v:=by
   intro v hv
   obtain⟨c,hc',rfl⟩:=List.mem_map.1 hv
   have:=hc c hc'
   unfold ycw at this
   rw[if_pos hk] at this
   exact this.2
  refine⟨by unfold yeg;rw[if_pos (by omega)],?_⟩
  rw[yp6 (by omega) hi]
  simp only
  unfold ycm
  rw[ynk hk hc]
  exact yfi _ _ rfl
 ·simp only[show ¬ ((3:Int)=1) by decide,show ¬ ((3:Int)=2) by decide,if_false,if_true]
  have hi:∀ v∈ycm cs,I64 v:=by
   intro v hv
   obtain⟨c,hc',rfl⟩:=List.mem_map.1 hv
   have:=hc c hc'
   unfold ycw at this
   rw[if_pos hk] at this
   exact this.2
  refine⟨by unfold ye9;rw[if_neg (by omega)];split <;> rfl,?_⟩
  rw[dec_encPk (by omega) hi]
  simp only
  unfold ycm
  rw[ynk hk hc]
  exact yfi _ _ rfl
 ·simp only[show ¬ ((4:Int)=1) by decide,show ¬ ((4:Int)=2) by decide,show ¬ ((4:Int)=3) by decide,if_false,if_true]
  have hx:∀ s∈ybp cs,s.length≤200:=by
   intro v hv
   obtain⟨c,hc',rfl⟩:=List.mem_map.1 hv
   have:=hc c hc'
   unfold ycw at this
   rw[if_neg (by omega)] at this
   exact this.2
  have hid:(idx (ybp cs)).2.2=0:=by
   unfold idx
   rw[if_neg]
   rintro(h|⟨s,hs,h⟩)
   ·omega
   ·have:=hx s hs;omega
  refine⟨by unfold encS;rw[if_pos hid],?_⟩
  rw[dec_enc hid]
  simp only
  unfold ybp
  rw[ymq (by omega) hc]
  exact yfi _ _ rfl
 ·simp only[show ¬ ((5:Int)=1) by decide,show ¬ ((5:Int)=2) by decide,show ¬ ((5:Int)=3) by decide,show ¬ ((5:Int)=4) by decide,if_false,if_true]
  have hx:∀ s∈ybp cs,s.length≤200:=by
   intro v hv
   obtain⟨c,hc',rfl⟩:=List.mem_map.1 hv
   have:=hc c hc'
   unfold ycw at this
   rw[if_neg (by omega)] at this
   exact this.2
  have hid:(yei (ybp cs)).2=0:=by
   unfold yei
   rw[if_neg]
   rintro(h|⟨s,hs,h⟩)
   ·omega
   ·have:=hx s hs;omega
  refine⟨hid,?_⟩
  rw[yqd hid]
  simp only
  unfold ybp
  rw[ymq (by omega) hc]
  exact yfi _ _ rfl
theorem yf2 {l:List Cel} {e:Int} {n:Nat} (h:(yc0 l e n).2=0):e=0∧l.length=n∧yc0 l e n=(l,0):=by
 unfold yc0 at h ⊢
 by_cases he:e=0
 ·rw[if_neg (by simpa using he)] at h ⊢
  by_cases hl:l.length=n
  ·rw[if_neg (by simpa using hl)];exact⟨he,hl,rfl⟩
  ·rw[if_pos hl] at h;exact absurd h (by decide)
 ·rw[if_pos he] at h;exact absurd h he
theorem map_f1 (l:List Int):(l.map ye1).map (·.f1)=l:=by rw[List.map_map];exact List.map_id _
theorem map_f2 (l:List (List Int)):(l.map yd2).map (·.f2)=l:=by rw[List.map_map];exact List.map_id _
theorem cells_bwd {kind codec:Int} {b:List Int} (hb:Bys b) {n:Nat} (hf:ycz kind codec) (h:(yb6 kind codec b n).2=0) :
  (yb6 kind codec b n).1.length=n∧(∀ c∈(yb6 kind codec b n).1,c.f0=false)∧∀ cs:List Cel,ydd cs=(yb6 kind codec b n).1→ycj kind codec cs=(b,0):=by
 unfold yb6 at h ⊢
 rcases hf with rfl|⟨hk,rfl|rfl⟩|⟨hk,rfl|rfl⟩
 ·simp only[if_true] at h ⊢
  unfold ygv at h ⊢
  by_cases h1:(ydk kind b n 0 []).2.2=0
  rotate_left
  ·rw[if_pos h1] at h;exact absurd h h1
  rw[if_neg (by simpa using h1)] at h ⊢
  by_cases h2:(ydk kind b n 0 []).2.1<b.length
  ·rw[if_pos h2] at h;exact absurd h (by decide)
  rw[if_neg h2]
  simp only
  obtain⟨vs,e1,e2,e3,e4,e5⟩:=yrm hb n 0 [] (by omega) h1
  rw[List.nil_append] at e3
  rw[e3]
  refine⟨e1,fun c hc=>(e2 c hc).2,fun cs hcs=>?_⟩
  unfold ycj
  simp only[show ¬ ((1:Int)=2) by decide,show ¬ ((1:Int)=3) by decide,show ¬ ((1:Int)=4) by decide,show ¬ ((1:Int)=5) by decide,if_false]
  rw[Prod.mk.injEq]
  refine⟨?_,rfl⟩
  unfold yda
  rw[hcs]
  have e6:b.drop 0=b:=rfl
  rw[e6,List.drop_eq_nil_of_le (show b.length≤(ydk kind b n 0 []).2.1 by omega),List.append_nil] at e5
  exact e5.symm
 ·simp only[show ¬ ((2:Int)=1) by decide,if_false,if_true] at h ⊢
  obtain⟨h1,h2,h3⟩:=yf2 h
  rw[h3]
  refine⟨h2,fun c hc=>by obtain⟨v,_,rfl⟩:=List.mem_map.1 hc;rfl,fun cs hcs=>?_⟩
  unfold ycj ycm
  rw[if_pos rfl,hcs]
  simp only
  rw[map_f1]
  exact(yi2 hb h1).1
 ·simp only[show ¬ ((3:Int)=1) by decide,show ¬ ((3:Int)=2) by decide,if_false,if_true] at h ⊢
  obtain⟨h1,h2,h3⟩:=yf2 h
  rw[h3]
  refine⟨h2,fun c hc=>by obtain⟨v,_,rfl⟩:=List.mem_map.1 hc;rfl,fun cs hcs=>?_⟩
  unfold ycj ycm
  rw[if_neg (by decide),if_pos rfl,hcs]
  simp only
  rw[map_f1]
  exact(ykw hb h1).1
 ·simp only[show ¬ ((4:Int)=1) by decide,show ¬ ((4:Int)=2) by decide,show ¬ ((4:Int)=3) by decide,if_false,if_true] at h ⊢
  obtain⟨h1,h2,h3⟩:=yf2 h
  rw[h3]
  refine⟨h2,fun c hc=>by obtain⟨v,_,rfl⟩:=List.mem_map.1 hc;rfl,fun cs hcs=>?_⟩
  unfold ycj ybp
  rw[if_neg (by decide),if_neg (by decide),if_pos rfl,hcs]
  simp only
  rw[map_f2]
  exact enc_dec hb h1
 ·simp only[show ¬ ((5:Int)=1) by decide,show ¬ ((5:Int)=2) by decide,show ¬ ((5:Int)=3) by decide,show ¬ ((5:Int)=4) by decide,if_false] at h ⊢
  obtain⟨h1,h2,h3⟩:=yf2 h
  rw[h3]
  refine⟨h2,fun c hc=>by obtain⟨v,_,rfl⟩:=List.mem_map.1 hc;rfl,fun cs hcs=>?_⟩
  unfold ycj ybp
  rw[if_neg (by decide),if_neg (by decide),if_neg (by decide),if_pos rfl,hcs]
  simp only
  rw[map_f2]
  exact(yjm hb h1).1
theorem yit {kind codec:Int} {cs:List Cel} (h:(ydb kind codec cs).2=0) :
  yd0 kind∧ycz kind codec∧ycx kind cs=0∧(ycj kind codec cs).2=0∧(yek codec cs).length+(ycj kind codec cs).1.length+4≤65000∧(ydb kind codec cs)=(yel (yek codec cs++(ycj kind codec cs).1),0)∧yep kind codec cs=ydb kind codec cs:=by
 unfold ydb at h ⊢
 by_cases h1:kind<1∨8<kind
 ·rw[if_pos h1] at h;exact absurd h (by decide)
 rw[if_neg h1] at h ⊢
 by_cases h2:ycz kind codec
 rotate_left
 ·rw[if_pos h2] at h;exact absurd h (by decide)
 rw[if_neg (by simpa using h2)] at h ⊢
 by_cases h3:ycx kind cs=0
 rotate_left
 ·rw[if_pos h3] at h;exact absurd h h3
 rw[if_neg (by simpa using h3)] at h ⊢
 unfold yep at h ⊢
 by_cases h4:(ycj kind codec cs).2=0
 rotate_left
 ·rw[if_pos h4] at h;exact absurd h h4
 rw[if_neg (by simpa using h4)] at h ⊢
 by_cases h5:65000<(yek codec cs).length+(ycj kind codec cs).1.length+4
 ·rw[if_pos h5] at h;exact absurd h (by decide)
 rw[if_neg h5]
 exact⟨⟨by omega,by omega⟩,h2,h3,h4,by omega,rfl,rfl⟩
theorem yjp {kind codec:Int} {cs:List Cel} (hok:∀ c∈cs,yew c) (h:(ydb kind codec cs).2=0):yft kind (ydb kind codec cs).1=(cs,0):=by
 obtain⟨hk,hf,hc,hb,hl,he,_⟩:=yit h
 obtain⟨hcl,hcc⟩:=yid.1 hc
 rw[he]
 simp only
 have hlen:(yek codec cs++(ycj kind codec cs).1).length+4≤65000:=by rw[List.length_append];exact hl
 unfold yft
 rw[if_neg (by unfold yd0 at hk;omega),if_neg (by rw[yig];omega),if_neg (by rw[yps];decide)]
 have ht:(yel (yek codec cs++(ycj kind codec cs).1)).take ((yel (yek codec cs++(ycj kind codec cs).1)).length-4)=yek codec cs++(ycj kind codec cs).1:=by
  rw[yig,Nat.add_sub_cancel]
  unfold yel
  rw[List.take_append_of_le_length (Nat.le_refl _),List.take_of_length_le (Nat.le_refl _)]
 rw[ht]
 generalize hB:yek codec cs++(ycj kind codec cs).1=B
 have hd0:B.drop 0=codec::(vput cs.length++(ye7 cs++(ycj kind codec cs).1)):=by rw[← hB];unfold yek;simp
 obtain⟨k1,k2,k3⟩:=yk9 hd0
 have g:=yfn (by omega) k3
 have hd1:=yd6 k3
 have hn:=nulls_fwd hd1
 have hd2:=yd6 hd1
 obtain⟨_,hcd⟩:=ym5 hf hcl (fun c hc=>yi6 (hcc c (ydq.1 hc).1) (hok c (ydq.1 hc).1) (ydq.1 hc).2)
 unfold yhl
 rw[if_neg (by omega),k2,if_neg (by simpa using hf),Nat.zero_add] at *
 rw[g]
 simp only
 rw[if_neg (by simp),if_neg (by omega),hn]
 simp only
 rw[if_neg (by simp),hd2,yom,hcd]
 simp only
 rw[if_neg (by simp),ypv (fun c hc h0=>yp5 (hcc c hc) h0),if_neg (by simpa using hc)]
theorem err_ite {α:Type} {c:Prop} [Decidable c] {x y:List α×Int} (hx:x.1=[]∨x.2=0) (hy:y.1=[]∨y.2=0):(if c then x else y).1=[]∨(if c then x else y).2=0:=by split <;> assumption
theorem yqs {kind codec:Int} {cs:List Cel} (h:(ydb kind codec cs).2≠0):(ydb kind codec cs).1=[]:=by
 have:(ydb kind codec cs).1=[]∨(ydb kind codec cs).2=0:=by
  unfold ydb yep
  repeat' (first|refine err_ite ?_ ?_|exact .inl rfl|exact .inr rfl)
 exact this.resolve_right h
end Go.Proofs.YteeikgjjgfdjgaaGreat.PK
end
section
namespace Go.Proofs.YteeikgjjgfdjgaaGreat.PK
open Go.RowKit YteeikgjjgfdjgaaGreatW.PrintWords YteeikgjjgfdjgaaGreatW.PrintLast YteeikgjjgfdjgaaGreatW.PrintMore
set_option linter.unusedVariables false
set_option linter.unusedSimpArgs false
theorem yoe (a:Nat) (ha:a<18446744073709551616):Go.bits .xor .u64 (a:Int) 0=(a:Int):=by
 have:=bits_xor_u64_nat a 0 ha (by decide)
 simpa using this
theorem yl5 {v:Int} (h:I64 v):yez.f v=some ((ycg v:Nat):Int):=by
 obtain⟨h0,h1⟩:=h
 unfold yez.f ycg
 congr 1
 by_cases hv:0≤v
 ·rw[if_pos hv]
  have e1:IntKind.u64.wrap (wrap64 (v*2))=((2*v.toNat:Nat):Int):=by rw[IntKind.wrap_u64];unfold wrap64;omega
  have e2:IntKind.u64.wrap (v / 9223372036854775808)=0:=by rw[show v / 9223372036854775808=0 by omega];decide
  rw[e1,e2,yoe _ (by omega)]
 ·rw[if_neg hv]
  have e1:IntKind.u64.wrap (wrap64 (v*2))=(((2*v+18446744073709551616).toNat:Nat):Int):=by rw[IntKind.wrap_u64];unfold wrap64;omega
  have e2:IntKind.u64.wrap (v / 9223372036854775808)=((2^64-1:Nat):Int):=by rw[show v / 9223372036854775808 = -1 by omega];decide
  rw[e1,e2,bits_xor_u64_nat _ _ (by omega) (by decide),Nat.xor_comm,Lib.xor_ones64 _ (by omega)]
  omega
theorem yos (a b:Int):Go.bits .xor .i64 a b=Go.bits .xor .i64 b a:=by
 show IntKind.i64.wrap ((BitVec.ofInt 64 a ^^^ BitVec.ofInt 64 b).toNat:Int)=IntKind.i64.wrap ((BitVec.ofInt 64 b ^^^ BitVec.ofInt 64 a).toNat:Int)
 rw[BitVec.xor_comm]
theorem yoi (x:Nat) (hx:x<9223372036854775808):Go.bits .xor .i64 (x:Int) 0=(x:Int):=by
 show IntKind.i64.wrap ((BitVec.ofInt 64 (x:Int) ^^^ BitVec.ofInt 64 0).toNat:Int)=_
 have h2:(BitVec.ofInt 64 (x:Int)).toNat=x:=by rw[BitVec.ofInt_natCast,BitVec.toNat_ofNat];exact Nat.mod_eq_of_lt (by omega)
 rw[show BitVec.ofInt 64 0=0#64 from by decide,BitVec.xor_zero,h2,IntKind.wrap_i64]
 omega
theorem yjt {u:Nat} (h:u<18446744073709551616):yfj.f (u:Int)=some (ydh u):=by
 unfold yfj.f ydh
 congr 1
 rw[Lib.u64_and1 _ (by omega) (by omega),w64 (show -9223372036854775808≤(u:Int) / 2 by omega) (by omega)]
 have e:((u:Int) / 2)=((u / 2:Nat):Int):=by omega
 rw[e]
 by_cases h0:u%2=0
 ·rw[if_pos h0,show((u:Int)%2)=0 by omega,show wrap64 (-wrap64 0)=0 from by unfold wrap64;decide,yoi _ (by omega)]
 ·rw[if_neg h0,show((u:Int)%2)=1 by omega,show wrap64 (-wrap64 1) = -1 from by unfold wrap64;decide,yos,Lib.i64_not _ (by omega)]
theorem isNum_law (kind:Int):ybu.f kind=some (decide (1≤kind∧kind≤6)):=by
 unfold ybu.f
 by_cases h:kind≥1
 ·rw[if_pos h];simp;omega
 ·rw[if_neg h];simp;omega
theorem yhn {kind:Int} (h:yd0 kind):ybu.f kind=some (decide (kind≤6)):=by
 rw[isNum_law]
 obtain⟨h1,h2⟩:=h
 simp;omega
theorem known_law (kind:Int):yd7.f kind=some (decide (1≤kind∧kind≤8)):=by
 unfold yd7.f
 by_cases h:kind≥1
 ·rw[if_pos h];simp;omega
 ·rw[if_neg h];simp;omega
theorem ye5 (kind:Int):yb8.f kind=some (decide (kind<1∨8<kind)):=by
 unfold yb8.f
 by_cases h:kind<1
 ·rw[if_pos h];simp;omega
 ·rw[if_neg h];simp;omega
theorem fits_law {kind:Int} (h:yd0 kind) (codec:Int):Ev (fun k=>ybx.f k kind codec) (decide (ycz kind codec)):=by
 obtain⟨h1,h2⟩:=h
 have hn:=yhn (kind:=kind) ⟨h1,h2⟩
 by_cases e1:codec=1
 ·refine Ev.same (fun k=>?_) (Ev.now _)
  unfold ybx.f
  rw[if_pos e1]
  congr 1
  symm
  exact decide_eq_true (.inl e1)
 have key:∀ b:Bool,(b=true↔codec=2∨codec=3)→Ev (fun k=>ybx.j0 k kind codec b) (decide (ycz kind codec)):=by
  intro b hb
  refine Ev.step (fun k=>?_) (Ev.now _)
  rw[ybx.j0,hn]
  simp only[Option.bind_some]
  unfold ycz
  by_cases e:b=true
  ·rw[if_pos e]
   have:=hb.1 e
   congr 1
   refine decide_eq_decide.2 ?_
   omega
  ·rw[if_neg e]
   have e':¬ (codec=2∨codec=3):=fun h=>e (hb.2 h)
   by_cases e4:codec=4
   ·rw[if_pos e4]
    congr 1
    rw[← decide_not]
    refine decide_eq_decide.2 ?_
    omega
   ·rw[if_neg e4]
    by_cases e5:codec=5
    ·rw[if_pos e5]
     congr 1
     rw[← decide_not]
     refine decide_eq_decide.2 ?_
     omega
    ·rw[if_neg e5]
     congr 1
     symm
     refine decide_eq_false ?_
     omega
 by_cases e2:codec=2
 ·refine Ev.same (fun k=>?_) (key (codec == 2) (by simp [e2]))
  unfold ybx.f
  rw[if_neg e1,if_pos e2]
 ·refine Ev.same (fun k=>?_) (key (codec == 3) (by simp [e2]))
  unfold ybx.f
  rw[if_neg e1,if_neg e2]
theorem wrap_i8 (n:Int):IntKind.i8.wrap n=(n+128)%256-128:=by
 unfold IntKind.wrap
 simp [IntKind.bits,IntKind.signed]
 omega
theorem wrap_i16 (n:Int):IntKind.i16.wrap n=(n+32768)%65536-32768:=by
 unfold IntKind.wrap
 simp [IntKind.bits,IntKind.signed]
 omega
theorem wrap_u16c (n:Int):IntKind.u16.wrap n=n%65536:=by
 unfold IntKind.wrap
 simp [IntKind.bits,IntKind.signed]
theorem holds_law {kind v:Int} (h1:1≤kind) (h2:kind≤6) (hv:I64 v):ygt.f kind v=some (decide (ygd kind≤v∧v≤yg0 kind)):=by
 obtain⟨g1,g2⟩:=hv
 unfold ygt.f
 rcases(show kind=1∨kind=2∨kind=3∨kind=4∨kind=5∨kind=6 by omega) with rfl|rfl|rfl|rfl|rfl|rfl
 ·rw[if_neg (by decide),if_neg (by decide),if_pos (by unfold wrap64;decide),show shl .i64 1 (IntKind.u64.wrap (wrap64 (1-1)))=1 from by unfold wrap64;decide]
  unfold yej.f
  rw[if_pos rfl,Option.bind_some]
  congr 1
  rw[show ygd 1 = -128 from rfl,show yg0 1=127 from rfl,wrap_i8]
  rw[Bool.eq_iff_iff,beq_iff_eq,decide_eq_true_eq]
  unfold wrap64
  omega
 ·rw[if_neg (by decide),if_neg (by decide),if_pos (by unfold wrap64;decide),show shl .i64 1 (IntKind.u64.wrap (wrap64 (2-1)))=2 from by unfold wrap64;decide]
  unfold yej.f
  rw[if_neg (by decide),if_pos rfl,Option.bind_some]
  congr 1
  rw[show ygd 2 = -32768 from rfl,show yg0 2=32767 from rfl,wrap_i16]
  rw[Bool.eq_iff_iff,beq_iff_eq,decide_eq_true_eq]
  unfold wrap64
  omega
 ·rw[if_neg (by decide),if_neg (by decide),if_pos (by unfold wrap64;decide),show shl .i64 1 (IntKind.u64.wrap (wrap64 (3-1)))=4 from by unfold wrap64;decide]
  unfold yej.f
  rw[if_neg (by decide),if_neg (by decide),if_pos rfl,Option.bind_some]
  congr 1
  rw[show ygd 3 = -2147483648 from rfl,show yg0 3=2147483647 from rfl]
  rw[Bool.eq_iff_iff,beq_iff_eq,decide_eq_true_eq]
  unfold wrap64 wrap32
  omega
 ·rw[if_neg (by decide),if_neg (by decide),if_pos (by unfold wrap64;decide),show shl .i64 1 (IntKind.u64.wrap (wrap64 (4-1)))=8 from by unfold wrap64;decide]
  unfold yej.f
  rw[if_neg (by decide),if_neg (by decide),if_neg (by decide),if_pos rfl,Option.bind_some]
  congr 1
  rw[show ygd 4 = -9223372036854775808 from rfl,show yg0 4=9223372036854775807 from rfl]
  rw[Bool.eq_iff_iff,beq_iff_eq,decide_eq_true_eq]
  omega
 ·rw[if_pos rfl]
  congr 1
  rw[show ygd 5=0 from rfl,show yg0 5=65535 from rfl,wrap_u16c]
  rw[Bool.eq_iff_iff,beq_iff_eq,decide_eq_true_eq]
  unfold wrap64
  omega
 ·rw[if_neg (by decide),if_pos rfl]
  congr 1
  rw[show ygd 6=0 from rfl,show yg0 6=1 from rfl]
  rw[Bool.eq_iff_iff,beq_iff_eq,decide_eq_true_eq]
  omega
theorem ygj {cs:List Cel} {i:Nat} (h:i<cs.length):yaj cs (i:Int)=cs[i]:=by unfold yaj;rw[Int.toNat_natCast,List.getD_eq_getElem?_getD,List.getElem?_eq_getElem h,Option.getD_some]
theorem yj0 (cs:List Cel) (i:Nat) (h:i<cs.length):ydd (cs.take (i+1))=if cs[i].f0=true then ydd (cs.take i) else ydd (cs.take i)++[cs[i]]:=by
 rw[← ybc cs i h]
 unfold ydd
 rw[List.filter_append]
 cases hc:cs[i].f0 <;> simp [hc]
theorem yn5 (cs:List Cel) (i:Nat):(ydd (cs.take i)).length≤i:=Nat.le_trans (List.length_filter_le _ _) (by rw[List.length_take];omega)
theorem yh3 {kind:Int} {c:Cel} (h:ycw kind c):(yds kind c).length≤210:=by
 unfold yds ycw at *
 split
 ·have:=ya5 (ycg c.f1);omega
 ·rename_i hk
  rw[if_neg hk] at h
  have:=ya5 c.f2.length
  rw[List.length_append]
  omega
theorem yg2 {kind:Int}:∀ {vs:List Cel},(∀ c∈vs,ycw kind c)→((vs.map (yds kind)).flatten).length≤210*vs.length
 | [],_=>by simp
 | c::vs,h=>by
  have h1:=yh3 (h c (by simp))
  have h2:=yg2 (vs:=vs) (fun d hd=>h d (by simp [hd]))
  rw[List.map_cons,List.flatten_cons,List.length_append,List.length_cons]
  omega
theorem plain_law {kind:Int} (hk:yd0 kind) (cs:List Cel) (hl:cs.length≤4096) (hc:∀ c∈ydd cs,ycw kind c):Ev (fun k=>ya8.f k kind cs) (yda kind cs):=by
 have hn:=yhn hk
 have key:∀ n i:Nat,i+n=cs.length→Ev (fun k=>ya8.l0 k kind (yda kind (cs.take i)) cs (cs.length:Int) (i:Int)) (yda kind cs):=by
  intro n
  induction n with
  | zero =>
   intro i h
   refine Ev.step (fun k=>?_) (Ev.now _)
   rw[ya8.l0,if_neg (by omega),List.take_of_length_le (by omega)]
  | succ n ih =>
   intro i h
   have hi:i<cs.length:=by omega
   have hle:=yn5 cs i
   have hs:=yj0 cs i hi
   have hsub:∀ c∈ydd (cs.take i),ycw kind c:=fun c hm=>hc c (ydq.2 ⟨List.mem_of_mem_take (ydq.1 hm).1,(ydq.1 hm).2⟩)
   have hlen:=yg2 hsub
   have hrec:=ih (i+1) (by omega)
   by_cases h0:cs[i].f0=true
   ·refine Ev.step (fun k=>?_) hrec
    rw[ya8.l0,if_pos (by omega),if_pos (by omega),if_pos (by omega),ygj hi,if_pos h0,w64s i (by omega)]
    unfold yda
    rw[hs,if_pos h0]
   ·have hp:=hc cs[i] (ydq.2 ⟨List.getElem_mem hi,by simpa using h0⟩)
    have hpl:=yh3 hp
    have e:yda kind (cs.take (i+1))=yda kind (cs.take i)++yds kind cs[i]:=by unfold yda;rw[hs,if_neg h0,List.map_append,List.flatten_append];simp
    have hpS:(yda kind (cs.take i)).length≤210*(ydd (cs.take i)).length:=hlen
    rw[e] at hrec
    by_cases hk6:kind≤6
    ·have e2:yds kind cs[i]=vput (ycg cs[i].f1):=by unfold yds;rw[if_pos hk6]
     unfold ycw at hp
     rw[if_pos hk6] at hp
     rw[e2] at hrec hpl
     refine Ev.step (g:=fun k=>(ya3.f k ((ycg cs[i].f1:Nat):Int)).bind fun t=>if (yda kind (cs.take i)).length+t.length<140737488355328 then ya8.l0 k kind (yda kind (cs.take i)++t) cs (cs.length:Int) ((i+1:Nat):Int) else none) (fun k=>?_) (Ev.bind (yhy _ (yfd hp.2)) ?_)
     ·rw[ya8.l0,if_pos (by omega),if_pos (by omega),if_pos (by omega),ygj hi,if_neg h0,hn,Option.bind_some,if_pos (by simpa using hk6),yl5 hp.2,Option.bind_some,w64s i (by omega)]
     ·exact Ev.same (fun k=>by rw[if_pos (by omega)]) hrec
    ·have e2:yds kind cs[i]=vput cs[i].f2.length++cs[i].f2:=by unfold yds;rw[if_neg hk6]
     unfold ycw at hp
     rw[if_neg hk6] at hp
     rw[e2,← List.append_assoc] at hrec
     rw[e2,List.length_append] at hpl
     have hp2:=hp.2
     refine Ev.step (g:=fun k=>(ya3.f k ((cs[i].f2.length:Nat):Int)).bind fun t=>if (yda kind (cs.take i)).length+t.length<140737488355328 then (some (yda kind (cs.take i)++t)).bind fun y=>if y.length+cs[i].f2.length<140737488355328 then ya8.l0 k kind (y++cs[i].f2) cs (cs.length:Int) ((i+1:Nat):Int) else none else none) (fun k=>?_) (Ev.bind (yhy cs[i].f2.length (by omega)) ?_)
     ·rw[ya8.l0,if_pos (by omega),if_pos (by omega),if_pos (by omega),ygj hi,if_neg h0,hn,Option.bind_some,if_neg (by simpa using hk6),wraps_u64 _ (by omega) (by omega),w64s i (by omega)]
     ·exact Ev.same (fun k=>by rw[if_pos (by omega),Option.bind_some,if_pos (by rw[List.length_append];omega)]) hrec
 exact key cs.length 0 (by omega)
theorem nulls_law (cs:List Cel) (hl:cs.length≤4096):Ev (fun k=>ycb.f k cs) (ye7 cs):=by
 have hp:=yfg 1 (cs.map ych) (by decide) (by rw[List.length_map];exact hl)
 have key:∀ n i:Nat,i+n=cs.length→Ev (fun k=>ycb.l0 k ((List.range cs.length).map fun j=>if j<i then ych (cs.getD j ye6) else 0) (if ∃ c∈cs.take i,c.f0=true then 1 else 0) cs (cs.length:Int) (i:Int)) (ye7 cs):=by
  intro n
  induction n with
  | zero =>
   intro i h
   have e1:((List.range cs.length).map fun j=>if j<i then ych (cs.getD j ye6) else 0)=cs.map ych:=by
    apply List.ext_getElem
    ·simp
    ·intro j h1 h2
     simp only[List.getElem_map,List.getElem_range]
     rw[List.length_map] at h2
     rw[if_pos (by omega),List.getD_eq_getElem?_getD,List.getElem?_eq_getElem h2,Option.getD_some]
   rw[e1,List.take_of_length_le (by omega)]
   by_cases hn:∃ c∈cs,c.f0=true
   ·rw[if_pos hn]
    have:=ppack (w:=1) (by decide) (yik cs) (by rw[List.length_map];exact hl)
    refine Ev.step (g:=fun k=>(ybf.f k 1 (cs.map ych)).bind fun bt=>(some ([1]:List Int)).bind fun y=>if y.length+bt.1.length<140737488355328 then some (y++bt.1) else none) (fun k=>?_) (Ev.bind this ?_)
    ·rw[ycb.l0,if_neg (by omega),if_neg (by decide)]
    ·refine Ev.same (fun k=>?_) (Ev.now _)
     rw[Option.bind_some,if_pos (by simp;omega)]
     unfold ye7
     rw[if_pos hn]
     rfl
   ·rw[if_neg hn]
    refine Ev.step (fun k=>?_) (Ev.now _)
    rw[ycb.l0,if_neg (by omega),if_pos rfl]
    unfold ye7
    rw[if_neg hn]
  | succ n ih =>
   intro i h
   have hi:i<cs.length:=by omega
   have hrec:=ih (i+1) (by omega)
   have ht:=ybc cs i hi
   rw[← ht] at hrec
   have hset:((List.range cs.length).map fun j=>if j<i then ych (cs.getD j ye6) else 0).set i (ych cs[i])=((List.range cs.length).map fun j=>if j<i+1 then ych (cs.getD j ye6) else 0):=by
    have:=ymt cs.length i (fun j=>ych (cs.getD j ye6))
    simp only[List.getD_eq_getElem?_getD,List.getElem?_eq_getElem hi,Option.getD_some] at this ⊢
    exact this
   rw[← hset] at hrec
   refine Ev.step (fun k=>?_) hrec
   rw[ycb.l0,if_pos (by omega),if_pos (by omega),if_pos (by omega),ygj hi,w64s i (by omega)]
   by_cases h0:cs[i].f0=true
   ·have e1:ych cs[i]=1:=by unfold ych;rw[if_pos h0]
    rw[if_pos h0,if_pos (by simp;omega),e1,Int.toNat_natCast,if_pos (show ∃ c∈cs.take i++[cs[i]],c.f0=true from⟨cs[i],List.mem_append_right _ (List.mem_singleton_self _),h0⟩)]
   ·have e1:ych cs[i]=0:=by unfold ych;rw[if_neg h0]
    rw[if_neg h0,e1]
    have e2:((List.range cs.length).map fun j=>if j<i then ych (cs.getD j ye6) else 0).set i 0=((List.range cs.length).map fun j=>if j<i then ych (cs.getD j ye6) else 0):=by
     apply List.ext_getElem
     ·simp
     ·intro j h1 h2
      rw[List.getElem_set]
      split
      ·rename_i e;subst e;simp
      ·rfl
    rw[e2]
    have e3:(∃ c∈cs.take i++[cs[i]],c.f0=true)↔∃ c∈cs.take i,c.f0=true:=by
     constructor
     ·rintro⟨c,hc,hc0⟩
      rcases List.mem_append.1 hc with hc|hc
      ·exact⟨c,hc,hc0⟩
      ·rw[List.mem_singleton.1 hc] at hc0;exact absurd hc0 h0
     ·rintro⟨c,hc,hc0⟩;exact⟨c,List.mem_append_left _ hc,hc0⟩
    simp only[e3]
 have h0:=key cs.length 0 (by omega)
 refine Ev.same (fun k=>?_) h0
 unfold ycb.f
 rw[if_pos (by omega),if_pos (by rw[Int.toNat_natCast];omega),Int.toNat_natCast]
 congr 1
 ·apply List.ext_getElem
  ·simp
  ·intro j h1 h2;simp
theorem yin (vs:List Int) (e:Int) (hl:vs.length≤4096):Ev (fun k=>ybm.f k vs e) (vs.map ye1,e):=by
 have key:∀ n i:Nat,i+n=vs.length→Ev (fun k=>ybm.l0 k e ((vs.take i).map ye1) vs (vs.length:Int) (i:Int)) (vs.map ye1,e):=by
  intro n
  induction n with
  | zero =>
   intro i h
   refine Ev.step (fun k=>?_) (Ev.now _)
   rw[ybm.l0,if_neg (by omega),List.take_of_length_le (by omega)]
  | succ n ih =>
   intro i h
   have hi:i<vs.length:=by omega
   refine Ev.step (fun k=>?_) (ih (i+1) (by omega))
   rw[ybm.l0,if_pos (by omega),if_pos (by omega),if_pos (by omega),if_pos (by rw[List.length_map,List.length_take];omega),yb3 hi,w64s i (by omega),← ybc vs i hi,List.map_append]
   rfl
 exact key vs.length 0 (by omega)
theorem ynf (S:BitVec 32):(stp S).toNat=if S.toNat%2=1 then (S.toNat / 2) ^^^ 2197175160 else S.toNat / 2:=by
 have h0:S.getLsbD 0=decide (S.toNat%2=1):=by
  show S.toNat.testBit 0=_
  exact Nat.testBit_zero _
 unfold stp
 rw[h0]
 by_cases h:S.toNat%2=1
 ·rw[if_pos h,decide_eq_true h]
  simp only[if_true]
  rw[BitVec.toNat_xor,BitVec.toNat_ushiftRight,Nat.shiftRight_eq_div_pow]
  rfl
 ·rw[if_neg h,decide_eq_false h]
  simp only[Bool.false_eq_true,if_false]
  rw[BitVec.xor_zero,BitVec.toNat_ushiftRight,Nat.shiftRight_eq_div_pow]
theorem ykm (S:BitVec 32):S.toNat<4294967296:=S.isLt
theorem ymo (S:BitVec 32) {c:Int} (hc:0≤c∧c<256):Go.bits .xor .u32 (S.toNat:Int) (c%4294967296)=((S ^^^ BitVec.ofNat 32 c.toNat).toNat:Int):=by
 rw[show c%4294967296=((c.toNat:Nat):Int) from by omega,u32_xor_nat _ _ (ykm S) (by omega),BitVec.toNat_xor,BitVec.toNat_ofNat,Nat.mod_eq_of_lt (by omega)]
theorem rsum_l1 (b:List Int) (i:Nat) (res):∀ (n:Nat) (j:Nat) (S:BitVec 32),j+n=8→Ev (fun k=>ybk.l0 k b ((stpN n S).toNat:Int) (wrap64 ((i:Int)+1))) res→Ev (fun k=>ybk.l1 k b (S.toNat:Int) (i:Int) (j:Int)) res:=by
 intro n
 induction n with
 | zero =>
  intro j S hj h
  refine Ev.step (fun k=>?_) h
  rw[ybk.l1,if_neg (by omega)]
  rfl
 | succ n ih =>
  intro j S hj h
  refine Ev.step (fun k=>?_) (ih (j+1) (stp S) (by omega) h)
  have hS:=ykm S
  rw[ybk.l1,if_pos (by omega),w64s j (by omega),ynf]
  have e1:(Int.tdiv (S.toNat:Int) 2)%4294967296=((S.toNat / 2:Nat):Int):=by
   rw[Int.tdiv_eq_ediv_of_nonneg (by omega)];omega
  have e2:Int.tmod (S.toNat:Int) 2=((S.toNat%2:Nat):Int):=by
   rw[Int.tmod_eq_emod_of_nonneg (by omega)];omega
  rw[e1,e2]
  by_cases h1:S.toNat%2=1
  ·rw[if_pos (by omega),if_pos h1]
   have:=u32_xor_nat (S.toNat / 2) 2197175160 (by omega) (by decide)
   rw[show((2197175160:Nat):Int)=2197175160 from rfl] at this
   rw[this]
  ·rw[if_neg (by omega),if_neg h1]
theorem rsum_ev {b:List Int} (hb:Bys b) (hl:b.length≤140737488355328):Ev (fun k=>ybk.f k b) ((sumS b:Nat):Int):=by
 have key:∀ n i:Nat,i+n=b.length→Ev (fun k=>ybk.l0 k b ((crcL ones (b.take i)).toNat:Int) (i:Int)) ((sumS b:Nat):Int):=by
  intro n
  induction n with
  | zero =>
   intro i h
   refine Ev.step (fun k=>?_) (Ev.now _)
   rw[ybk.l0,if_neg (by omega),List.take_of_length_le (by omega)]
   congr 1
   have:=u32_xor_nat (crcL ones b).toNat 4294967295 (ykm _) (by decide)
   rw[show((4294967295:Nat):Int)=4294967295 from rfl] at this
   rw[this]
   unfold sumS
   rw[BitVec.toNat_xor]
   rfl
  | succ n ih =>
   intro i h
   have hi:i<b.length:=by omega
   have hx:=hb b[i] (List.getElem_mem hi)
   have hrec:=ih (i+1) (by omega)
   rw[← ybc b i hi] at hrec
   have e:crcL ones (b.take i++[b[i]])=stpN 8 (crcL ones (b.take i) ^^^ BitVec.ofNat 32 (b[i]).toNat):=by unfold crcL;rw[List.foldl_append];rfl
   rw[e] at hrec
   refine Ev.step (fun k=>?_) (rsum_l1 b i _ 8 0 (crcL ones (b.take i) ^^^ BitVec.ofNat 32 (b[i]).toNat) (by omega) (by rw[w64s i (by omega)];exact hrec))
   rw[ybk.l0,if_pos (by omega),if_pos (by omega),yb3 hi,ymo _ hx]
   rfl
 have:=key b.length 0 (by omega)
 exact this
theorem low_ev (v:Nat) (hv:v<4294967296):Ev (fun k=>yb0.f k (v:Int) 4) (ydr 4 v):=by
 have hd:∀ x:Nat,IntKind.u64.wrap (Int.tdiv (x:Int) 256)=((x / 256:Nat):Int)∨¬ x<4294967296:=by
  intro x
  by_cases hx:x<4294967296
  ·left
   rw[Int.tdiv_eq_ediv_of_nonneg (by omega),IntKind.wrap_u64];omega
  ·exact .inr hx
 have hm:∀ x:Nat,(Int.tmod (x:Int) 256)%256=((x%256:Nat):Int):=by intro x;rw[Int.tmod_eq_emod_of_nonneg (by omega)];omega
 have d1:=(hd v).resolve_right (by omega)
 have d2:=(hd (v / 256)).resolve_right (by omega)
 have d3:=(hd (v / 256 / 256)).resolve_right (by omega)
 have d4:=(hd (v / 256 / 256 / 256)).resolve_right (by omega)
 refine⟨5,fun k hk=>?_⟩
 obtain⟨m,rfl⟩:∃ m,k=m+5:=⟨k-5,by omega⟩
 show yb0.f (m+5) (v:Int) 4=_
 unfold yb0.f
 rw[show m+5=(m+4)+1 from rfl,yb0.l0,if_pos (by decide),if_pos (by decide),d1,hm,show wrap64 (0+1)=1 from by unfold wrap64;decide]
 rw[show m+4=(m+3)+1 from rfl,yb0.l0,if_pos (by decide),if_pos (by simp),d2,hm,show wrap64 (1+1)=2 from by unfold wrap64;decide]
 rw[show m+3=(m+2)+1 from rfl,yb0.l0,if_pos (by decide),if_pos (by simp),d3,hm,show wrap64 (2+1)=3 from by unfold wrap64;decide]
 rw[show m+2=(m+1)+1 from rfl,yb0.l0,if_pos (by decide),if_pos (by simp),d4,hm,show wrap64 (3+1)=4 from by unfold wrap64;decide]
 rw[yb0.l0,if_neg (by decide)]
 simp [ydr]
theorem yl3 {b:List Int} (hb:Bys b) (hl:b.length+4≤140737488355328):Ev (fun k=>yeq.f k b) (yel b):=by
 have hs:=yjc b
 unfold yeq.f
 refine Ev.bind (rsum_ev hb (by omega)) ?_
 rw[wraps_u64 _ (by omega) (by omega)]
 refine Ev.bind (low_ev _ hs) (Ev.bind (yha _ _ (by rw[ygb];omega)) (Ev.now _))
theorem yky {v:Int} (h:I64 v):ydm.f v=some ((ycg v:Nat):Int):=by
 obtain⟨h0,h1⟩:=h
 unfold ydm.f ycg
 by_cases hv:0≤v
 ·rw[if_pos hv,if_pos hv]
  congr 1
  rw[wraps_u64 v hv (by omega),wraps_u64 _ (by omega) (by omega)]
  omega
 ·rw[if_neg hv,if_neg hv]
  congr 1
  rw[w64 (n:=v+1) (by omega) (by omega),w64 (n:=-(v+1)) (by omega) (by omega),wraps_u64 (-(v+1)) (by omega) (by omega),wraps_u64 (-(v+1)*2) (by omega) (by omega),wraps_u64 _ (by omega) (by omega)]
  omega
theorem zero_ev (b:List Int) (hl:b.length≤140737488355328):Ev (fun k=>ybj.f k b) (decide ((0:Int)∈b)):=by
 have key:∀ n i:Nat,i+n=b.length→Ev (fun k=>ybj.l0 k b (i:Int)) (decide ((0:Int)∈b.drop i)):=by
  intro n
  induction n with
  | zero =>
   intro i h
   refine Ev.step (fun k=>?_) (Ev.now _)
   rw[ybj.l0,if_neg (by omega),List.drop_eq_nil_of_le (by omega)]
   simp
  | succ n ih =>
   intro i h
   have hi:i<b.length:=by omega
   rw[List.drop_eq_getElem_cons hi]
   by_cases h0:b[i]=0
   ·refine Ev.step (fun k=>?_) (Ev.now _)
    rw[ybj.l0,if_pos (by omega),if_pos (by omega),yb3 hi,if_pos h0]
    congr 1
    symm
    exact decide_eq_true (by rw[h0];simp)
   ·refine Ev.step (fun k=>?_) (Ev.same (g:=fun k=>ybj.l0 k b ((i+1:Nat):Int)) (fun k=>rfl) (show Ev _ (decide ((0:Int)∈b[i]::b.drop (i+1))) from ?_))
    ·rw[ybj.l0,if_pos (by omega),if_pos (by omega),yb3 hi,if_neg h0,w64s i (by omega)]
    ·have e:decide ((0:Int)∈b[i]::b.drop (i+1))=decide ((0:Int)∈b.drop (i+1)):=by
      refine decide_eq_decide.2 ⟨fun hm=>(List.mem_cons.1 hm).resolve_left (fun e=>h0 e.symm),fun hm=>List.mem_cons_of_mem _ hm⟩
     rw[e]
     exact ih (i+1) (by omega)
 have:=key b.length 0 (by omega)
 exact this
theorem rcheck_ev {kind:Int} {c:Cel} (hl:c.f2.length≤140737488355328):Ev (fun k=>ybg.f k kind true c.f0 c.f1 c.f2) (yd3 kind c):=by
 have key:∀ bad:Bool,(bad=true↔kind<1∨8<kind)→Ev (fun k=>ybg.j0 k kind true bad c.f0 c.f1 c.f2) (yd3 kind c):=by
  intro bad hbad
  unfold yd3
  by_cases hb:bad=true
  ·rw[if_pos (hbad.1 hb)]
   refine Ev.step (fun k=>?_) (Ev.now _)
   rw[ybg.j0,if_pos hb]
  have hg:¬ (kind<1∨8<kind):=fun h=>hb (hbad.2 h)
  rw[if_neg hg]
  by_cases h0:c.f0=true
  ·rw[if_pos h0]
   refine Ev.step (fun k=>?_) (Ev.now _)
   rw[ybg.j0,if_neg hb,if_pos h0,if_pos rfl]
   by_cases h1:c.f1=0
   ·rw[if_pos h1]
    by_cases h2:(c.f2.length:Int) > 0
    ·rw[if_pos h2,if_pos (.inr (by omega))]
    ·rw[if_neg h2,if_neg (by rintro(h|h);exact h h1;omega)]
   ·rw[if_neg h1,if_pos (.inl h1)]
  rw[if_neg h0]
  by_cases hk:kind≤6
  ·rw[if_pos hk]
   refine Ev.step (fun k=>?_) (Ev.now _)
   rw[ybg.j0,if_neg hb,if_neg h0,if_pos hk]
   by_cases h2:(c.f2.length:Int) > 0
   ·rw[if_pos h2,if_pos (by omega)]
   ·rw[if_neg h2,if_neg (by omega)]
    have hL:ycd.f kind=some (ygd kind):=by unfold ycd.f ygd;(repeat' split) <;> rfl
    have hG:ycf.f kind=some (yg0 kind):=by unfold ycf.f yg0;(repeat' split) <;> rfl
    rw[hL,Option.bind_some,hG]
    by_cases h3:c.f1<ygd kind
    ·rw[if_pos h3,if_pos (.inl h3)]
    ·rw[if_neg h3,Option.bind_some]
     by_cases h4:c.f1 > yg0 kind
     ·rw[if_pos h4,if_pos (.inr h4)]
     ·rw[if_neg h4,if_neg (by omega)]
  ·rw[if_neg hk]
   by_cases h1:c.f1=0
   ·rw[if_neg (by simpa using h1)]
    by_cases h2:(c.f2.length:Int) > 200
    ·rw[if_pos (by omega)]
     refine Ev.step (fun k=>?_) (Ev.now _)
     rw[ybg.j0,if_neg hb,if_neg h0,if_neg hk,if_pos h1,if_pos h2]
    ·rw[if_neg (by omega)]
     by_cases h7:kind=7
     ·refine Ev.step (g:=fun k=>(ybj.f k c.f2).bind fun t=>if t=true then some 5 else some 0) (fun k=>?_) (Ev.bind (zero_ev c.f2 hl) ?_)
      ·rw[ybg.j0,if_neg hb,if_neg h0,if_neg hk,if_pos h1,if_neg h2,if_pos h7]
      ·refine Ev.same (fun k=>?_) (Ev.now _)
       by_cases hz:(0:Int)∈c.f2
       ·rw[if_pos (by simpa using hz),if_pos ⟨h7,hz⟩]
       ·rw[if_neg (by simpa using hz),if_neg (fun h=>hz h.2)]
     ·rw[if_neg (fun h=>h7 h.1)]
      refine Ev.step (fun k=>?_) (Ev.now _)
      rw[ybg.j0,if_neg hb,if_neg h0,if_neg hk,if_pos h1,if_neg h2,if_neg h7]
   ·rw[if_pos h1]
    refine Ev.step (fun k=>?_) (Ev.now _)
    rw[ybg.j0,if_neg hb,if_neg h0,if_neg hk,if_neg h1]
 by_cases h1:kind<1
 ·refine Ev.same (fun k=>?_) (key true (by simp [h1]))
  unfold ybg.f
  rw[if_pos h1]
 ·refine Ev.same (fun k=>?_) (key (decide (kind > 8)) (by simp;omega))
  unfold ybg.f
  rw[if_neg h1]
theorem yrn {kind:Int} {cs:List Cel} (hs:cs.length≤140737488355328) (hl:∀ c∈cs,c.f2.length≤140737488355328):Ev (fun k=>ybz.f k kind cs) (ycx kind cs):=by
 have key:∀ n i:Nat,i+n=cs.length→Ev (fun k=>ybz.l0 k kind cs (i:Int)) (yfq kind (cs.drop i)):=by
  intro n
  induction n with
  | zero =>
   intro i h
   refine Ev.step (fun k=>?_) (Ev.now _)
   rw[ybz.l0,if_neg (by omega),List.drop_eq_nil_of_le (by omega)]
   rfl
  | succ n ih =>
   intro i h
   have hi:i<cs.length:=by omega
   rw[List.drop_eq_getElem_cons hi]
   refine Ev.step (g:=fun k=>(ybg.f k kind true cs[i].f0 cs[i].f1 cs[i].f2).bind fun t=>if t=0 then ybz.l0 k kind cs ((i+1:Nat):Int) else some t) (fun k=>?_) (Ev.bind (rcheck_ev (hl _ (List.getElem_mem hi))) ?_)
   ·rw[ybz.l0,if_pos (by omega),if_pos (by omega),ygj hi,w64s i (by omega)]
   ·simp only[yfq]
    by_cases h0:yd3 kind cs[i]=0
    ·rw[if_neg (by simpa using h0)]
     exact Ev.same (fun k=>by rw[if_pos h0]) (ih (i+1) (by omega))
    ·rw[if_pos h0]
     exact Ev.same (fun k=>by rw[if_neg h0]) (Ev.now _)
 unfold ycx
 by_cases h:4096<cs.length
 ·rw[if_pos h]
  refine Ev.same (fun k=>?_) (Ev.now _)
  unfold ybz.f
  rw[if_pos (by omega)]
 ·rw[if_neg h]
  have:=key cs.length 0 (by omega)
  refine Ev.same (fun k=>?_) this
  unfold ybz.f
  rw[if_neg (by omega)]
  rfl
theorem add_ev (a b:List Int) (hl:a.length+b.length≤140737488355328):Ev (fun k=>ybw.f k a b) (a++b):=by
 have key:∀ n i:Nat,i+n=b.length→Ev (fun k=>ybw.l0 k (a++b.take i) b (i:Int)) (a++b):=by
  intro n
  induction n with
  | zero =>
   intro i h
   refine Ev.step (fun k=>?_) (Ev.now _)
   rw[ybw.l0,if_neg (by omega),List.take_of_length_le (by omega)]
  | succ n ih =>
   intro i h
   have hi:i<b.length:=by omega
   refine Ev.step (fun k=>?_) (ih (i+1) (by omega))
   rw[ybw.l0,if_pos (by omega),if_pos (by omega),if_pos (by rw[List.length_append,List.length_take];omega),yb3 hi,w64s i (by omega),List.append_assoc,ybc b i hi]
 have:=key b.length 0 (by omega)
 refine Ev.same (fun k=>?_) this
 unfold ybw.f
 rw[List.take_zero,List.append_nil]
 rfl
theorem rfits_law {kind:Int} (h:yd0 kind) (codec:Int):yer.f kind codec=some (decide (ycz kind codec)):=by
 unfold yer.f ycz
 obtain⟨h1,h2⟩:=h
 by_cases e1:codec=1
 ·rw[if_pos e1];congr 1;symm;exact decide_eq_true (.inl e1)
 rw[if_neg e1]
 by_cases k6:kind≤6
 ·rw[if_pos k6]
  by_cases e2:codec=2
  ·rw[if_pos e2];congr 1;symm;exact decide_eq_true (by omega)
  rw[if_neg e2]
  by_cases e3:codec=3
  ·rw[if_pos e3];congr 1;symm;exact decide_eq_true (by omega)
  rw[if_neg e3,if_neg (by omega)];congr 1;symm;exact decide_eq_false (by omega)
 ·rw[if_neg k6,if_pos (by omega)]
  by_cases e4:codec=4
  ·rw[if_pos e4];congr 1;symm;exact decide_eq_true (by omega)
  rw[if_neg e4];congr 1
  by_cases e5:codec=5
  ·rw[beq_iff_eq.2 e5];symm;exact decide_eq_true (by omega)
  ·rw[beq_eq_false_iff_ne.2 e5];symm;exact decide_eq_false (by omega)
end Go.Proofs.YteeikgjjgfdjgaaGreat.PK
end
