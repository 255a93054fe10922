/-
  Parts of the proof: AKvr, AKur, AKqd, AKqe, AKr, Bc, Bv, Br, Bp, Bx, Bb.
-/
import Derived.Test.YteeikgjjgfdjgaaGreatU20
import Derived.Test.YteeikgjjgfdjgaaGreatU19
import Derived.Test.YteeikgjjgfdjgaaGreatU17
section
namespace Go.Proofs.YteeikgjjgfdjgaaGreat.PK
open Go.RowKit YteeikgjjgfdjgaaGreatW.PrintWords YteeikgjjgfdjgaaGreatW.PrintLast YteeikgjjgfdjgaaGreatW.PrintMore
set_option linter.unusedVariables false
set_option linter.unusedSimpArgs false
theorem renc_l1 (es:List (List Int)) (us out:List Int) (res) (hl:us.length≤4096) (hu:Fit 64 us)
  (hres:Ev (fun k=>(yed.f k (es.length:Int)).bind fun t414=>((yag.f k t414 us).bind fun bt415=>((yae.f k (IntKind.u64.wrap ((us.length:Int)))).bind fun t419=>((yam.f k out t419).bind fun t422=>((yam.f k t422 bt415.1).bind fun t425=>(some (t425,0))))))) res) :
  ∀ n i:Nat,i+n=us.length→Ev (fun k=>ya7.l1 k es us out (us.take i) (i:Int)) res:=by
 intro n
 induction n with
 | zero =>
  intro i h
  refine Ev.step (fun k=>?_) hres
  rw[ya7.l1,if_neg (by omega),List.take_of_length_le (by omega)]
 | succ n ih =>
  intro i h
  have hi:i<us.length:=by omega
  have h1:=hu us[i] (List.getElem_mem hi)
  refine Ev.step (fun k=>?_) (ih (i+1) (by omega))
  rw[ya7.l1,if_pos (by omega),if_pos (by omega),if_pos (by simp;omega),yb3 hi,wraps_u64 _ h1.1 h1.2,w64s i (by omega),ybc us i hi]
theorem renc_l0 (es:List (List Int)) (us:List Int) (hes:es.length≤4096) (hr:∀ s∈es,s.length≤200) (hl:us.length≤4096) (hu:Fit (wid es.length) us) :
  ∀ n i:Nat,i+n=es.length→Ev (fun k=>ya7.l0 k es us (vput es.length++((es.take i).map one).flatten) (i:Int)) (encB es us,0):=by
 have hw:=yje es.length hes
 have hu64:Fit 64 us:=fun u hm=>by
  have h1:=hu u hm
  refine⟨h1.1,Int.lt_of_lt_of_le h1.2 ?_⟩
  have:2^wid es.length≤2^64:=Nat.pow_le_pow_right (n:=2) (by decide) (by omega)
  exact_mod_cast this
 intro n
 induction n with
 | zero =>
  intro i h
  have h1:=ygy es hr
  have h2:=ya5 es.length
  have h3:=ya5 us.length
  have h4:=yfg (wid es.length) us (by omega) hl
  refine Ev.step (fun k=>?_) (renc_l1 es us (vput es.length++(es.map one).flatten) _ hl hu64 ?_ us.length 0 (by omega))
  ·rw[ya7.l0,if_neg (by omega),List.take_of_length_le (by omega)]
   rfl
  ·refine Ev.bind (yqt es.length (by omega)) (Ev.bind (rpack (by omega) hu hl) ?_)
   rw[wraps_u64 _ (by omega) (by omega)]
   refine Ev.bind (ye8 us.length (by omega)) (Ev.bind (yha _ _ (by simp only[List.length_append];omega)) (Ev.bind (yha _ _ (by simp only[List.length_append];omega)) (Ev.now _)))
 | succ n ih =>
  intro i h
  have hi:i<es.length:=by omega
  have hs:=hr es[i] (List.getElem_mem hi)
  have h1:=ygy (es.take i) (fun s hm=>hr s (List.mem_of_mem_take hm))
  rw[List.length_take] at h1
  have h2:=ya5 es.length
  have h3:=ya5 es[i].length
  have hrec:=ih (i+1) (by omega)
  rw[← ybc es i hi,List.map_append,List.flatten_append] at hrec
  simp only[List.map_cons,List.map_nil,List.flatten_cons,List.flatten_nil,List.append_nil] at hrec
  refine Ev.step (g:=fun k=>((yae.f k ((es[i].length:Nat):Int)).bind fun t397=>((yam.f k (vput es.length++((es.take i).map one).flatten) t397).bind fun t400=>((yam.f k t400 es[i]).bind fun t404=>(ya7.l0 k es us t404 ((i+1:Nat):Int)))))) (fun k=>?_) ?_
  ·rw[ya7.l0,if_pos (by omega),if_pos (by omega),ye3 hi,wraps_u64 _ (by omega) (by omega),w64s i (by omega)]
  ·refine Ev.bind (ye8 es[i].length (by omega)) (Ev.bind (yha _ _ (by simp only[List.length_append];omega)) (Ev.bind (yha _ _ (by simp only[List.length_append];omega)) ?_))
   refine Ev.same (fun k=>?_) hrec
   simp only[one,List.append_assoc]
theorem renc_law (ss:List (List Int)):Ev (fun k=>ya7.f k ss) (encS ss):=by
 refine Ev.bind (index_ev ss) ?_
 by_cases h:(idx ss).2.2=0
 ·obtain⟨h1,h2,h3,h4⟩:=yk4 h
  have h5:=yfy ss
  unfold encS
  rw[if_pos h,h3,h4]
  refine Ev.same (g:=fun k=>(yae.f k (((ents ss).length:Nat):Int)).bind fun t393=>ya7.l0 k (ents ss) (ss.map (fun s=>((pos (ents ss) s:Nat):Int))) t393 0) (fun k=>by rw[if_pos h,wraps_u64 _ (by omega) (by omega)]) (Ev.bind (ye8 (ents ss).length (by omega)) ?_)
  have:=renc_l0 (ents ss) (ss.map (fun s=>((pos (ents ss) s:Nat):Int))) (by omega) (fun s hs=>h2 s (ydp.1 hs)) (by simpa using h1) (yk5 h1) (ents ss).length 0 (by omega)
  simpa using this
 ·unfold encS
  rw[if_neg h]
  exact Ev.same (fun k=>by rw[if_neg h]) (Ev.now _)
theorem yd6 {b X Y:List Int} {p:Nat} (h:b.drop p=X++Y):b.drop (p+X.length)=Y:=by
 rw[← List.drop_drop,h,List.drop_left]
theorem yo3 {es:List (List Int)} (h:0<es.length):es.getD (es.length-1) []=es[es.length-1]:=by
 rw[List.getD_eq_getElem?_getD,List.getElem?_eq_getElem (by omega)]
 rfl
theorem ypw {es:List (List Int)} {s:List Int} (hs:ydc es) (h:0<es.length→cmpL (es.getD (es.length-1) []) s<0):ydc (es++[s]):=by
 refine List.pairwise_append.2 ⟨hs,by simp,fun a ha b hb=>?_⟩
 rw[List.mem_singleton.1 hb]
 obtain⟨i,hi,rfl⟩:=List.getElem_of_mem ha
 have h0:0<es.length:=by omega
 have h1:=h h0
 rw[yo3 h0] at h1
 rcases Nat.lt_or_ge i (es.length-1) with h2|h2
 ·exact yfb (hs.get h2 (by omega)) h1
 ·have:i=es.length-1:=by omega
  subst this
  exact h1
theorem textS_fwd {b s Y:List Int} {p:Nat} (hs:s.length≤200) (h:b.drop p=one s++Y):ycv b p=(s,p+(one s).length,0):=by
 have h':b.drop p=vput s.length++(s++Y):=by rw[h,one,List.append_assoc]
 have hv:=ykx (by omega) h'
 have hd:=yd6 h'
 have hl:=congrArg List.length hd
 rw[List.length_drop,List.length_append] at hl
 unfold ycv
 rw[hv]
 simp only
 rw[if_pos trivial,if_neg (by omega),if_neg (by omega),hd,List.take_left,one,List.length_append]
 congr 2
 omega
theorem entS_fwd {b:List Int}:∀ (es1 es0:List (List Int)) (p:Nat) (Y:List Int),ydc (es0++es1)→(∀ s∈es1,s.length≤200)→b.drop p=(es1.map one).flatten++Y→entS b es1.length p es0=(es0++es1,p+(es1.map one).flatten.length,0):=by
 intro es1
 induction es1 with
 | nil=>intro es0 p Y hr hl h;simp [entS]
 | cons s es1 ih =>
  intro es0 p Y hr hl h
  rw[List.map_cons,List.flatten_cons,List.append_assoc] at h
  have ht:=textS_fwd (hl s (by simp)) h
  have hd:=yd6 h
  have hr':ydc ((es0++[s])++es1):=by rw[List.append_assoc];exact hr
  have hrec:=ih (es0++[s]) (p+(one s).length) Y hr' (fun x hx=>hl x (by simp [hx])) hd
  rw[List.length_cons,entS,ht]
  simp only
  rw[if_pos trivial,if_neg ?_,hrec]
  ·rw[List.append_assoc,List.map_cons,List.flatten_cons,List.length_append,Nat.add_assoc]
   rfl
  ·rintro⟨h0,h1⟩
   rw[yo3 h0] at h1
   have:=(List.pairwise_append.1 hr).2.2 es0[es0.length-1] (List.getElem_mem _) s (by simp)
   rw[yk1] at this
   omega
theorem textS_bwd {b:List Int} (hb:Bys b) {p:Nat} (h:(ycv b p).2.2=0):b.drop p=one (ycv b p).1++b.drop (ycv b p).2.1:=by
 unfold ycv at h ⊢
 by_cases h1:(vget b p).2.2=0
 ·rw[if_pos h1] at h ⊢
  by_cases h2:200<(vget b p).1
  ·rw[if_pos h2] at h;simp at h
  ·rw[if_neg h2] at h ⊢
   by_cases h3:b.length-(vget b p).2.1<(vget b p).1
   ·rw[if_pos h3] at h;simp at h
   ·rw[if_neg h3]
    have hu:=yes (l:=b) (p:=p) (v:=(vget b p).1) (q:=(vget b p).2.1) hb (by rw[← h1])
    have hl:((b.drop (vget b p).2.1).take (vget b p).1).length=(vget b p).1:=by rw[List.length_take,List.length_drop];omega
    simp only[one]
    rw[hl,hu.2.2,List.append_assoc,← List.drop_drop,List.take_append_drop]
 ·rw[if_neg h1] at h;exact absurd h h1
theorem entS_bwd {b:List Int} (hb:Bys b):∀ (n p:Nat) (es0:List (List Int)),ydc es0→p≤b.length→(entS b n p es0).2.2=0 →
  ∃ es1,(entS b n p es0).1=es0++es1∧es1.length=n∧ydc (es0++es1)∧(∀ s∈es1,s.length≤200)∧(entS b n p es0).2.1≤b.length∧b.drop p=(es1.map one).flatten++b.drop (entS b n p es0).2.1:=by
 intro n
 induction n with
 | zero =>
  intro p es0 hr hp h
  refine⟨[],by simp [entS],rfl,by simpa using hr,fun s hs=>by simp at hs,hp,by simp [entS]⟩
 | succ n ih =>
  intro p es0 hr hp h
  by_cases h1:(ycv b p).2.2=0
  ·obtain⟨k1,k2,k3,k4⟩:=yof hb h1
   have hd:=textS_bwd hb h1
   by_cases h2:0<es0.length∧cmpL (ycv b p).1 (es0.getD (es0.length-1) [])≤0
   ·rw[entS,if_pos h1,if_pos h2] at h
    simp at h
   ·have ee:entS b (n+1) p es0=entS b n (ycv b p).2.1 (es0++[(ycv b p).1]):=by rw[entS,if_pos h1,if_neg h2]
    rw[ee] at h ⊢
    have hr1:ydc (es0++[(ycv b p).1]):=ypw hr (fun h0=>by
     have h3:¬ cmpL (ycv b p).1 (es0.getD (es0.length-1) [])≤0:=fun h=>h2 ⟨h0,h⟩
     rw[yk1]
     omega)
    obtain⟨es1,e1,e2,e3,e4,e5,e6⟩:=ih _ _ hr1 k1 h
    refine⟨(ycv b p).1::es1,by rw[e1,List.append_assoc];rfl,by simp [e2],by rw[List.append_assoc] at e3;exact e3,fun s hs=>?_,e5,?_⟩
    ·rcases List.mem_cons.1 hs with rfl|hs
     ·exact k2
     ·exact e4 s hs
    ·rw[hd,e6,List.map_cons,List.flatten_cons,List.append_assoc]
  ·rw[entS,if_neg h1] at h
   exact absurd h h1
theorem yp9 (ss:List (List Int)):yfm (ents ss) (ss.map (fun s=>((pos (ents ss) s:Nat):Int)))=(ss,0):=by
 have hr:=yeu ss
 unfold yfm
 rw[if_pos]
 ·congr 1
  rw[List.map_map]
  conv=>rhs;rw[← List.map_id ss]
  refine List.map_congr_left fun s hs=>?_
  obtain⟨h1,h2⟩:=ykz hr (ydp.2 hs)
  simp only[Function.comp,Int.toNat_natCast,id]
  rw[List.getD_eq_getElem?_getD,List.getElem?_eq_getElem h1]
  exact h2
 ·refine⟨fun u hu=>?_,fun i hi=>?_⟩
  ·obtain⟨s,hs,rfl⟩:=List.mem_map.1 hu
   obtain⟨h1,h2⟩:=ykz hr (ydp.2 hs)
   omega
  ·have:=yiz hr hi
   refine List.mem_map.2 ⟨(ents ss)[i],ydp.1 (List.getElem_mem hi),?_⟩
   rw[this]
theorem dec_enc {ss:List (List Int)} (h:(idx ss).2.2=0):decS (encS ss).1=(ss,0):=by
 obtain⟨h1,h2,h3,h4⟩:=yk4 h
 have hel:=yfy ss
 obtain⟨us,hus⟩:∃ us,us=ss.map (fun s=>((pos (ents ss) s:Nat):Int)):=⟨_,rfl⟩
 have hul:us.length=ss.length:=by rw[hus,List.length_map]
 have hfit:=yk5 h1
 rw[← hus] at hfit
 have henc:(encS ss).1=encB (ents ss) us:=by
  unfold encS
  rw[if_pos h,h3,h4,← hus]
 rw[henc]
 have htx:=yp9 ss
 rw[← hus] at htx
 obtain⟨es,hes⟩:∃ es,es=ents ss:=⟨_,rfl⟩
 rw[← hes] at htx hel hfit ⊢
 have hr:ydc es:=by rw[hes];exact yeu ss
 have hlen:∀ s∈es,s.length≤200:=fun s hs=>h2 s (ydp.1 (by rw[← hes];exact hs))
 obtain⟨b,hb⟩:∃ b,b=encB es us:=⟨_,rfl⟩
 rw[← hb]
 have hb0:b.drop 0=vput es.length++((es.map one).flatten++(vput us.length++ydg (wid es.length) us)):=by
  rw[hb,List.drop_zero,encB]
  simp only[List.append_assoc]
 have v0:=ykx (by omega) hb0
 have hb1:=yd6 hb0
 rw[Nat.zero_add] at hb1 v0
 have he:=entS_fwd es [] _ _ (by simpa using hr) hlen hb1
 rw[List.nil_append] at he
 have hb2:=yd6 hb1
 have v2:=ykx (by omega) hb2
 have hb3:=yd6 hb2
 have hup:=yi3 hfit
 unfold decS
 rw[v0]
 simp only
 rw[if_pos trivial,if_neg (by omega),he]
 simp only
 rw[if_pos trivial]
 unfold decT
 rw[v2]
 simp only
 rw[if_pos trivial,if_neg (by omega),hb3,hup]
 simp only
 rw[if_pos trivial]
 exact htx
theorem dec_err {b:List Int} (h:(decS b).2≠0):(decS b).1=[]:=by
 unfold decS at h ⊢
 split at h
 ·rename_i h1
  rw[if_pos h1]
  split at h
  ·rename_i h2;rw[if_pos h2]
  ·rename_i h2
   rw[if_neg h2]
   split at h
   ·rename_i h3
    rw[if_pos h3]
    unfold decT at h ⊢
    split at h
    ·rename_i h4
     rw[if_pos h4]
     split at h
     ·rename_i h5;rw[if_pos h5]
     ·rename_i h5
      rw[if_neg h5]
      split at h
      ·rename_i h6
       rw[if_pos h6]
       unfold yfm at h ⊢
       split at h
       ·simp at h
       ·rename_i h7;rw[if_neg h7]
      ·rename_i h6;rw[if_neg h6]
    ·rename_i h4;rw[if_neg h4]
   ·rename_i h3;rw[if_neg h3]
 ·rename_i h1;rw[if_neg h1]
theorem enc_dec {b:List Int} (hb:Bys b) (h:(decS b).2=0):encS (decS b).1=(b,0):=by
 obtain⟨ss,hss⟩:∃ ss,ss=(decS b).1:=⟨_,rfl⟩
 have hd:decS b=(ss,0):=by rw[hss,← h]
 rw[← hss]
 clear h hss
 unfold decS at hd
 split at hd
 ·rename_i h1
  split at hd
  ·simp at hd
  ·rename_i h2
   split at hd
   ·rename_i h3
    have hle:=yeh hb h1
    obtain⟨es,e1,e2,e3,e4,e5,e6⟩:=entS_bwd hb _ _ [] (List.Pairwise.nil) hle.1 h3
    rw[List.nil_append] at e1 e3
    rw[e1] at hd
    have hu0:=yes (l:=b) (p:=0) (v:=(vget b 0).1) (q:=(vget b 0).2.1) hb (by rw[← h1])
    obtain⟨p,hp⟩:∃ p,p=(entS b (vget b 0).1 (vget b 0).2.1 []).2.1:=⟨_,rfl⟩
    rw[← hp] at hd e5 e6
    unfold decT at hd
    split at hd
    ·rename_i h4
     split at hd
     ·simp at hd
     ·rename_i h5
      split at hd
      ·rename_i h6
       have hu1:=yes (l:=b) (p:=p) (v:=(vget b p).1) (q:=(vget b p).2.1) hb (by rw[← h4])
       obtain⟨us,hus⟩:∃ us,us=(yci (b.drop (vget b p).2.1) (wid es.length) (vget b p).1).1:=⟨_,rfl⟩
       have hun:yci (b.drop (vget b p).2.1) (wid es.length) (vget b p).1=(us,0):=by rw[hus,← h6]
       rw[← hus] at hd
       obtain⟨p1,p2,p3⟩:=ygf (hb.drop _) hun
       unfold yfm at hd
       split at hd
       ·rename_i h7
        obtain⟨ha,hc⟩:=h7
        simp only[Prod.mk.injEq] at hd
        obtain⟨hss,_⟩:=hd
        have hu00:∀ u∈us,0≤u:=fun u hu=>(p2 u hu).1
        have hget:∀ u∈us,∃ hi:u.toNat<es.length,es.getD u.toNat []=es[u.toNat]:=fun u hu=>by
         have h8:=ha u hu
         have h9:=hu00 u hu
         refine⟨by omega,?_⟩
         rw[List.getD_eq_getElem?_getD,List.getElem?_eq_getElem (by omega)]
         rfl
        have hents:ents ss=es:=yny (yeu ss) e3 (fun x=>by
         rw[ydp,← hss,List.mem_map]
         constructor
         ·rintro⟨u,hu,rfl⟩
          obtain⟨hi,e⟩:=hget u hu
          rw[e]
          exact List.getElem_mem hi
         ·intro hx
          obtain⟨i,hi,rfl⟩:=List.getElem_of_mem hx
          refine⟨(i:Int),hc i hi,?_⟩
          rw[Int.toNat_natCast,List.getD_eq_getElem?_getD,List.getElem?_eq_getElem hi]
          rfl)
        have hcodes:ss.map (fun s=>((pos (ents ss) s:Nat):Int))=us:=by
         rw[hents,← hss,List.map_map]
         conv=>rhs;rw[← List.map_id us]
         refine List.map_congr_left fun u hu=>?_
         obtain⟨hi,e⟩:=hget u hu
         have:=hu00 u hu
         simp only[Function.comp,id]
         rw[e,yiz e3 hi]
         omega
        have hok:idx ss=(ents ss,ss.map (fun s=>((pos (ents ss) s:Nat):Int)),0):=by
         unfold idx
         rw[if_neg]
         rintro(h8|⟨s,hs,h8⟩)
         ·rw[← hss,List.length_map,p1] at h8
          omega
         ·have:=e4 s (by rw[← hents];exact ydp.2 hs)
          omega
        unfold encS
        rw[hok]
        simp only
        rw[if_pos trivial,hcodes,hents]
        congr 1
        unfold encB
        rw[p3,p1,e2,List.append_assoc,List.append_assoc,← hu1.2.2,← e6,← hu0.2.2,List.drop_zero]
       ·simp at hd
      ·rename_i h6
       simp only[Prod.mk.injEq] at hd
       exact absurd hd.2 h6
    ·rename_i h4
     simp only[Prod.mk.injEq] at hd
     exact absurd hd.2 h4
   ·rename_i h3
    simp only[Prod.mk.injEq] at hd
    exact absurd hd.2 h3
 ·rename_i h1
  simp only[Prod.mk.injEq] at hd
  exact absurd hd.2 h1
end Go.Proofs.YteeikgjjgfdjgaaGreat.PK
end
section
namespace Go.Proofs.YteeikgjjgfdjgaaGreat.PK
open Go.RowKit
set_option linter.unusedVariables false
set_option linter.unusedSimpArgs false
def stp (s:BitVec 32):BitVec 32:=(s >>> 1) ^^^ (if s.getLsbD 0 then 0x82F63B78#32 else 0#32)
theorem stp_xor (a b:BitVec 32):stp (a ^^^ b)=stp a ^^^ stp b:=by
 unfold stp
 refine BitVec.eq_of_getLsbD_eq fun i hi=>?_
 rw[show(a ^^^ b).getLsbD 0=(a.getLsbD 0 ^^ b.getLsbD 0) from BitVec.getLsbD_xor]
 simp only[BitVec.getLsbD_xor,BitVec.getLsbD_ushiftRight]
 generalize a.getLsbD (1+i)=x
 generalize b.getLsbD (1+i)=y
 cases a.getLsbD 0 <;> cases b.getLsbD 0 <;> simp <;> generalize (2197175160#32).getLsbD i=z <;> revert x y z <;> decide
theorem stp_zero:stp 0#32=0#32:=by decide
theorem yqc {s:BitVec 32} (h:stp s=0#32):s=0#32:=by
 unfold stp at h
 have hb:∀ i,i<31→s.getLsbD (i+1)=(if s.getLsbD 0 then (0x82F63B78#32).getLsbD i else false):=by
  intro i hi
  have:=congrArg (fun x=>BitVec.getLsbD x i) h
  simp only[BitVec.getLsbD_xor,BitVec.getLsbD_ushiftRight] at this
  rw[Nat.add_comm]
  cases h0:s.getLsbD 0 <;> simp_all
 have h31:=congrArg (fun x=>BitVec.getLsbD x 31) h
 simp only[BitVec.getLsbD_xor,BitVec.getLsbD_ushiftRight] at h31
 have e:s.getLsbD (1+31)=false:=BitVec.getLsbD_of_ge s 32 (by omega)
 rw[e] at h31
 cases h0:s.getLsbD 0 with
 | true=>rw[h0] at h31;exact absurd h31 (by decide)
 | false =>
  refine BitVec.eq_of_getLsbD_eq fun i hi=>?_
  rcases i with _|i
  ·simpa using h0
  ·rw[hb i (by omega),h0];simp
def stpN:Nat→BitVec 32→BitVec 32
 | 0,s=>s
 | n+1,s=>stpN n (stp s)
theorem ype {n:Nat} {s:BitVec 32} (h:stpN n s=0#32):s=0#32:=by
 induction n generalizing s with
 | zero=>exact h
 | succ n ih=>exact yqc (ih h)
def yet:Nat→BitVec 32→Nat→BitVec 32
 | 0,s,_=>s
 | n+1,s,N=>yet n (stp (s ^^^ BitVec.ofNat 32 (N%2))) (N / 2)
theorem ym9 (a b:Nat):BitVec.ofNat 32 (a ^^^ b)=BitVec.ofNat 32 a ^^^ BitVec.ofNat 32 b:=by
 apply BitVec.eq_of_toNat_eq
 rw[BitVec.toNat_ofNat,BitVec.toNat_xor,BitVec.toNat_ofNat,BitVec.toNat_ofNat,Nat.xor_mod_two_pow]
theorem xor_half (a b:Nat):(a ^^^ b) / 2=(a / 2) ^^^ (b / 2):=by
 have:=Nat.shiftRight_xor_distrib (a:=a) (b:=b) (i:=1)
 simpa [Nat.shiftRight_succ] using this
theorem xor_odd (a b:Nat):(a ^^^ b)%2=(a%2) ^^^ (b%2):=by
 have:=@Nat.xor_mod_two_pow a b 1
 simpa using this
theorem yno:∀ (n:Nat) (s d:BitVec 32) (N E:Nat),yet n (s ^^^ d) (N ^^^ E)=yet n s N ^^^ yet n d E
 | 0,s,d,N,E=>rfl
 | n+1,s,d,N,E=>by
  simp only[yet]
  rw[xor_half,xor_odd,ym9,← yno n,← stp_xor]
  congr 2
  refine BitVec.eq_of_getLsbD_eq fun i _=>?_
  simp only[BitVec.getLsbD_xor]
  generalize s.getLsbD i=x
  generalize d.getLsbD i=y
  generalize (BitVec.ofNat 32 (N%2)).getLsbD i=z
  generalize (BitVec.ofNat 32 (E%2)).getLsbD i=t
  revert x y z t
  decide
theorem stp_even {M:Nat} (h:2*M<4294967296):stp (BitVec.ofNat 32 (2*M))=BitVec.ofNat 32 M:=by
 have h0:(BitVec.ofNat 32 (2*M)).getLsbD 0=false:=by
  rw[BitVec.getLsbD_ofNat]
  simp
 unfold stp
 rw[h0]
 simp only[Bool.false_eq_true,if_false,BitVec.xor_zero]
 apply BitVec.eq_of_toNat_eq
 rw[BitVec.toNat_ushiftRight,BitVec.toNat_ofNat,BitVec.toNat_ofNat,Nat.shiftRight_eq_div_pow]
 omega
theorem yo8 (N:Nat):N=(N%2) ^^^ (2*(N / 2)):=by
 apply Nat.eq_of_testBit_eq
 intro i
 rw[Nat.testBit_xor]
 cases i with
 | zero=>simp
 | succ i=>simp [Nat.testBit_succ]
theorem yhz:∀ (n:Nat) (s:BitVec 32) (N:Nat),n≤32→N<2^n→yet n s N=stpN n (s ^^^ BitVec.ofNat 32 N)
 | 0,s,N,_,h=>by
  have:N=0:=by simpa using h
  subst this
  simp [yet,stpN]
 | n+1,s,N,hn,h=>by
  simp only[yet,stpN]
  have hle:(2:Nat)^(n+1)≤2^32:=Nat.pow_le_pow_right (by decide) hn
  rw[yhz n _ _ (by omega) (by rw[Nat.pow_succ] at h;omega)]
  congr 1
  rw[← stp_even (show 2*(N / 2)<4294967296 by omega),← stp_xor]
  congr 1
  conv=>rhs;rw[yo8 N,ym9]
  rw[BitVec.xor_assoc]
theorem yiy:∀ (n:Nat) (s:BitVec 32),yet n s 0=stpN n s
 | 0,s=>rfl
 | n+1,s=>by
  simp only[yet,stpN,Nat.zero_mod,Nat.zero_div]
  rw[yiy n]
  simp
theorem yht:∀ (n m:Nat) (s:BitVec 32) (N:Nat),yet (n+m) s N=yet m (yet n s N) (N / 2^n)
 | 0,m,s,N=>by simp [yet]
 | n+1,m,s,N=>by
  rw[show n+1+m=(n+m)+1 from by omega]
  simp only[yet]
  rw[yht n m,Nat.div_div_eq_div_mul,← Nat.pow_succ']
theorem yhu:∀ (n:Nat) (s:BitVec 32) (N:Nat),yet n s (N%2^n)=yet n s N
 | 0,s,N=>rfl
 | n+1,s,N=>by
  simp only[yet]
  have h1:N%2^(n+1)%2=N%2:=by rw[Nat.pow_succ,Nat.mul_comm];exact Nat.mod_mul_right_mod _ _ _
  have h2:N%2^(n+1) / 2=N / 2%2^n:=by rw[Nat.pow_succ,Nat.mul_comm];exact Nat.mod_mul_right_div_self _ _ _
  rw[h1,h2,yhu n]
theorem stpN_add (n m:Nat) (s:BitVec 32):stpN (n+m) s=stpN m (stpN n s):=by
 induction n generalizing s with
 | zero=>simp [stpN]
 | succ n ih=>rw[show n+1+m=(n+m)+1 from by omega];simp only[stpN];exact ih _
theorem procN_run {n at_ p:Nat} (hp:p<4294967296) (hfit:p*2^at_<2^n) (h:yet n 0#32 (p*2^at_)=0#32):p=0:=by
 by_cases h0:p=0
 ·exact h0
 have hlt:at_<n:=by
  refine Nat.lt_of_not_le fun hle=>?_
  have h1:2^n≤2^at_:=Nat.pow_le_pow_right (by decide) hle
  have h2:=Nat.mul_le_mul_right (2^at_) (show 1≤p by omega)
  omega
 obtain⟨m,rfl⟩:∃ m,n=at_+m:=⟨n-at_,by omega⟩
 have hpm:p<2^m:=by
  rw[Nat.pow_add,Nat.mul_comm (2^at_)] at hfit
  exact Nat.lt_of_mul_lt_mul_right hfit
 have e0:yet at_ 0#32 (p*2^at_)=0#32:=by
  rw[← yhu,Nat.mul_mod_left,yiy]
  clear h hfit hlt
  induction at_ with
  | zero=>rfl
  | succ k ih=>simp only[stpN];rw[stp_zero];exact ih
 rw[yht,e0,Nat.mul_div_cancel _ (Nat.pow_pos (by decide))] at h
 have e1:yet m 0#32 p=stpN m (BitVec.ofNat 32 p):=by
  by_cases hm:m≤32
  ·rw[yhz m _ _ hm hpm,BitVec.zero_xor]
  ·obtain⟨r,rfl⟩:∃ r,m=32+r:=⟨m-32,by omega⟩
   rw[yht,yhz 32 _ _ (by omega) (by simpa using hp),Nat.div_eq_of_lt (by simpa using hp),yiy,BitVec.zero_xor,stpN_add]
 rw[e1] at h
 have h3:=congrArg BitVec.toNat (ype h)
 rw[BitVec.toNat_ofNat] at h3
 simp at h3
 omega
def feedC (s:BitVec 32) (c:Int):BitVec 32:=stpN 8 (s ^^^ BitVec.ofNat 32 c.toNat)
def crcL (s:BitVec 32) (b:List Int):BitVec 32:=b.foldl feedC s
def ones:BitVec 32:=4294967295#32
def sumS (b:List Int):Nat:=(crcL ones b ^^^ ones).toNat
def yel (b:List Int):List Int:=b++ydr 4 (sumS b)
def ydi (b:List Int):Bool:=decide (4≤b.length∧b.drop (b.length-4)=ydr 4 (sumS (b.take (b.length-4))))
theorem ym4:∀ {b:List Int} (hb:Bys b) (s:BitVec 32),crcL s b=yet (8*b.length) s (le b)
 | [],_,s=>rfl
 | c::b,hb,s=>by
  obtain⟨h0,hb'⟩:=hb.cons
  show crcL (feedC s c) b=_
  rw[ym4 hb',List.length_cons,show 8*(b.length+1)=8+8*b.length from by omega,yht]
  have e:le (c::b)=c.toNat+256*le b:=rfl
  rw[e,show(2:Nat)^8=256 from rfl,show(c.toNat+256*le b) / 256=le b from by omega]
  congr 1
  unfold feedC
  rw[← yhz 8 s c.toNat (by decide) (by omega),← yhu 8 s (c.toNat+256*le b),show(c.toNat+256*le b)%2^8=c.toNat from by omega]
theorem yjc (b:List Int):sumS b<4294967296:=(crcL ones b ^^^ ones).isLt
theorem yps {b:List Int}:ydi (yel b)=true:=by
 unfold ydi yel
 have hl:(ydr 4 (sumS b)).length=4:=ygb _ _
 simp [hl]
theorem ylm {b:List Int} (h:ydi b=true):4≤b.length∧b=yel (b.take (b.length-4)):=by
 unfold ydi at h
 obtain⟨h1,h2⟩:=of_decide_eq_true h
 refine⟨h1,?_⟩
 unfold yel
 rw[← h2,List.take_append_drop]
theorem yne {m:List Int} (hm:Bys m):yet (8*(yel m).length) ones (le (yel m))=stpN 32 ones:=by
 have hl:(ydr 4 (sumS m)).length=4:=ygb _ _
 unfold yel
 rw[List.length_append,hl,show 8*(m.length+4)=8*m.length+32 from by omega,yht,ykf,ygz]
 have hlt:=le_lt hm
 rw[ygz] at hlt
 have hpos:0<2^(8*m.length):=Nat.pow_pos (by decide)
 rw[show(le m+2^(8*m.length)*le (ydr 4 (sumS m))) / 2^(8*m.length)=le (ydr 4 (sumS m)) from by rw[Nat.add_mul_div_left _ _ hpos,Nat.div_eq_of_lt hlt,Nat.zero_add]]
 rw[← yhu (8*m.length) ones,Nat.add_mul_mod_self_left,yhu,← ym4 hm,ync,show(256:Nat)^4=4294967296 from rfl,Nat.mod_eq_of_lt (yjc m)]
 rw[yhz 32 _ _ (by omega) (by simpa using yjc m)]
 congr 1
 unfold sumS
 rw[BitVec.ofNat_toNat,BitVec.setWidth_eq,← BitVec.xor_assoc,BitVec.xor_self,BitVec.zero_xor]
theorem run_told {b c:List Int} {p at_:Nat} (hb:Bys b) (hc:Bys c) (h1:ydi b=true) (h2:ydi c=true) (hl:c.length=b.length) (hx:le c=le b ^^^ (p*2^at_)) (hp:p<4294967296) (hfit:p*2^at_<2^(8*b.length)):c=b:=by
 obtain⟨_,e1⟩:=ylm h1
 obtain⟨_,e2⟩:=ylm h2
 have p1:=yne (hb.take (b.length-4))
 have p2:=yne (hc.take (c.length-4))
 rw[← e1] at p1
 rw[← e2,hl,hx] at p2
 have hz:=yno (8*b.length) ones 0#32 (le b) (p*2^at_)
 rw[BitVec.xor_zero,p2,p1] at hz
 have h0:yet (8*b.length) 0#32 (p*2^at_)=0#32:=by
  have:=congrArg (fun x=>stpN 32 ones ^^^ x) hz
  simp only[← BitVec.xor_assoc,BitVec.xor_self,BitVec.zero_xor] at this
  exact this.symm
 have:=procN_run hp hfit h0
 subst this
 rw[Nat.zero_mul,Nat.xor_zero] at hx
 rw[← yh0 hc,← yh0 hb,hl,hx]
theorem yig (b:List Int):(yel b).length=b.length+4:=by unfold yel;rw[List.length_append,ygb]
theorem sealS_bys {b:List Int} (hb:Bys b):Bys (yel b):=hb.append (ymj _ _)
theorem vgo_vputA:∀ (f i n u:Nat) (rest:List Int),i+f=9→n*128^i<18446744073709551616→(0<i→0<n)→vgo (yee f n++rest) i u=(u+n*128^i,i+(yee f n).length,0):=by
 intro f
 induction f with
 | zero =>
  intro i n u rest hi hn h0
  obtain rfl:i=9:=by omega
  have h1:n≤1:=by
   have:(128:Nat)^9=9223372036854775808:=by decide
   omega
  have h2:=h0 (by omega)
  simp only[yee,List.singleton_append,vgo]
  rw[if_neg (by omega),if_neg (by omega),if_neg (by omega)]
  simp
 | succ f ih =>
  intro i n u rest hi hn h0
  simp only[yee]
  split
  ·rename_i h1
   simp only[List.singleton_append,vgo]
   rw[if_neg (by omega),if_neg (by omega),if_neg (by omega)]
   simp
  ·rename_i h1
   rw[List.cons_append,vgo,if_neg (by omega),if_pos (by omega)]
   have e:n=n%128+128*(n / 128):=by omega
   have e2:n*128^i=n%128*128^i+n / 128*128^(i+1):=by
    rw[Nat.pow_succ]
    conv=>lhs;rw[e]
    rw[Nat.add_mul,Nat.mul_comm 128 (n / 128),Nat.mul_assoc,Nat.mul_comm 128 (128^i)]
   rw[ih (i+1) (n / 128) _ rest (by omega) (by omega) (fun _=>by omega)]
   rw[Prod.mk.injEq,Prod.mk.injEq]
   refine⟨?_,by simp;omega,rfl⟩
   rw[e2,show(((n%128+128:Nat):Int)).toNat%128=n%128 by omega]
   omega
theorem yfn {l rest:List Int} {p n:Nat} (h:n<18446744073709551616) (hl:l.drop p=vput n++rest):vget l p=(n,p+(vput n).length,0):=by
 unfold vget
 rw[hl]
 have:=vgo_vputA 9 0 n 0 rest rfl (by simpa using h) (fun h=>by omega)
 rw[show vput n=yee 9 n from rfl,this]
 simp
theorem vput_pos (n:Nat):0<(vput n).length:=by
 unfold vput
 rw[show(9:Nat)=8+1 from rfl,yee]
 split <;> simp
theorem vgo_lt:∀ (cs:List Int) (i u:Nat),Bys cs→i≤9→u<128^i→(vgo cs i u).2.2=0→(vgo cs i u).1<18446744073709551616:=by
 intro cs
 induction cs with
 | nil=>intro i u _ _ _ h;simp [vgo] at h
 | cons c cs ih =>
  intro i u hb hi hu h
  obtain⟨hc,hb'⟩:=hb.cons
  simp only[vgo] at h ⊢
  split at h
  ·simp at h
  ·rename_i h9
   rw[if_neg h9]
   split at h
   ·rename_i h1
    rw[if_pos h1]
    refine ih (i+1) _ hb' (by omega) ?_ h
    have:c.toNat%128<128:=Nat.mod_lt _ (by decide)
    rw[Nat.pow_succ]
    have:=Nat.mul_le_mul_right (128^i) (show c.toNat%128≤127 by omega)
    omega
   ·rename_i h1
    rw[if_neg h1]
    split at h
    ·simp at h
    ·rename_i h0
     rw[if_neg h0]
     simp only
     have hd:=yot (i:=i) (c:=c.toNat) hi (by omega) (fun e=>by omega)
     by_cases e:i=9
     ·subst e
      have:(128:Nat)^9=9223372036854775808:=by decide
      have:c.toNat≤1:=by omega
      have:=Nat.mul_le_mul_right (128^9) this
      omega
     ·have h1:128^(i+1)≤128^9:=Nat.pow_le_pow_right (by decide) (by omega)
      have h2:=Nat.mul_le_mul_right (128^i) (show c.toNat≤127 by omega)
      have h3:(128:Nat)^9=9223372036854775808:=by decide
      rw[Nat.pow_succ] at h1
      omega
theorem ye4 {l:List Int} {p:Nat} (hb:Bys l) (h:(vget l p).2.2=0):(vget l p).1<18446744073709551616:=vgo_lt _ 0 0 (hb.drop p) (by omega) (by decide) h
def ycg (v:Int):Nat:=if 0≤v then 2*v.toNat else 2*(-(v+1)).toNat+1
def ydh (u:Nat):Int:=if u%2=0 then ((u / 2:Nat):Int) else -((u / 2:Nat):Int)-1
def I64 (v:Int):Prop:=-9223372036854775808≤v∧v≤9223372036854775807
theorem yi1 (v:Int):ydh (ycg v)=v:=by
 unfold ycg ydh
 split <;> split <;> omega
theorem yi4 (u:Nat):ycg (ydh u)=u:=by
 unfold ycg ydh
 split <;> split <;> omega
theorem yfd {v:Int} (h:I64 v):ycg v<18446744073709551616:=by
 unfold ycg
 obtain⟨h1,h2⟩:=h
 split <;> omega
theorem yhf {u:Nat} (h:u<18446744073709551616):I64 (ydh u):=by
 unfold ydh I64
 split <;> omega
def rle:List Int→List (Int×Nat)
 | []=>[]
 | v::vs=>match rle vs with
  | []=>[(v,1)]
  | (u,n)::r=>if u=v then (u,n+1)::r else (v,1)::(u,n)::r
def yff (rs:List (Int×Nat)):List Int:=(rs.map fun r=>List.replicate r.2 r.1).flatten
def ygk:List (Int×Nat)→Prop
 | []=>True
 | [(_,n)]=>0<n
 | (v,n)::(u,m)::r=>0<n∧u≠v∧ygk ((u,m)::r)
theorem ynp (vs:List Int):yff (rle vs)=vs:=by
 induction vs with
 | nil=>rfl
 | cons v vs ih =>
  simp only[rle]
  split
  ·rename_i h
   rw[h] at ih
   rw[← ih];rfl
  ·rename_i u n r h
   rw[h] at ih
   split
   ·rename_i e
    subst e
    rw[← ih]
    simp [yff,List.replicate_succ]
   ·rw[← ih]
    simp [yff]
theorem rle_ok (vs:List Int):ygk (rle vs):=by
 induction vs with
 | nil=>trivial
 | cons v vs ih =>
  simp only[rle]
  split
  ·show 0<1;decide
  ·rename_i u n r h
   rw[h] at ih
   split
   ·cases r with
    | nil=>show 0<n+1;omega
    | cons a r=>obtain⟨_,h2,h3⟩:=ih;exact⟨by omega,h2,h3⟩
   ·rename_i e
    exact⟨by decide,e,ih⟩
theorem yg3 {v:Int}:∀ {n:Nat} {vs:List Int},0<n→(∀ u m r,rle vs=(u,m)::r→u≠v)→rle (List.replicate n v++vs)=(v,n)::rle vs:=by
 intro n
 induction n with
 | zero=>intro vs h;omega
 | succ n ih =>
  intro vs _ hv
  rw[List.replicate_succ,List.cons_append]
  simp only[rle]
  cases n with
  | zero =>
   simp only[List.replicate_zero,List.nil_append]
   split
   ·rename_i h;rw[h]
   ·rename_i u m r h
    rw[if_neg (hv u m r h),h]
  | succ n =>
   rw[ih (by omega) hv]
   simp
theorem ym6:∀ {rs:List (Int×Nat)},ygk rs→rle (yff rs)=rs
 | [],_=>rfl
 | [(v,n)],h=>by
  have:=yg3 (v:=v) (vs:=[]) h (fun u m r e=>by simp [rle] at e)
  simpa [yff,rle] using this
 | (v,n)::(u,m)::r,h=>by
  obtain⟨h1,h2,h3⟩:=h
  have ih:=ym6 h3
  have e:yff ((v,n)::(u,m)::r)=List.replicate n v++yff ((u,m)::r):=by simp [yff]
  rw[e,yg3 h1 (fun a b c e=>by rw[ih] at e;injection e with e;injection e with e;subst e;exact h2),ih]
theorem yf8 (vs:List Int):(rle vs).length≤vs.length:=by
 induction vs with
 | nil=>simp [rle]
 | cons v vs ih =>
  simp only[rle]
  split
  ·simp
  ·rename_i u n r h
   rw[h] at ih
   split <;> simp at ih ⊢ <;> omega
theorem yja {vs:List Int} {r:Int×Nat} (h:r∈rle vs):r.1∈vs∧0<r.2∧r.2≤vs.length:=by
 induction vs generalizing r with
 | nil=>simp [rle] at h
 | cons v vs ih =>
  simp only[rle] at h
  split at h
  ·simp at h;subst h;simp
  ·rename_i u n rr hh
   split at h
   ·rename_i e
    subst e
    rcases List.mem_cons.1 h with rfl|h
    ·have:=ih (r:=(u,n)) (by rw[hh];simp)
     simp at this ⊢
     omega
    ·have:=ih (r:=r) (by rw[hh];simp [h])
     exact⟨List.mem_cons_of_mem _ this.1,this.2.1,by simp;omega⟩
   ·rcases List.mem_cons.1 h with rfl|h
    ·simp
    ·have:=ih (r:=r) (by rw[hh];exact h)
     exact⟨List.mem_cons_of_mem _ this.1,this.2.1,by simp;omega⟩
def push (rs:List (Int×Nat)) (v:Int):List (Int×Nat):=match rs.getLast? with
 | some (u,n)=>if u=v then rs.dropLast++[(u,n+1)] else rs++[(v,1)]
 | none=>[(v,1)]
theorem yim (a:Int×Nat) {r:List (Int×Nat)} (h:r≠[]) (v:Int):push (a::r) v=a::push r v:=by
 unfold push
 obtain⟨r',b,rfl⟩:=List.eq_nil_or_concat r |>.resolve_left h
 rw[List.concat_eq_append,show(a::(r'++[b]))=(a::r')++[b] from rfl,List.getLast?_concat,List.getLast?_concat,List.dropLast_concat,List.dropLast_concat]
 obtain⟨u,n⟩:=b
 simp only
 split <;> simp
theorem rle_ne {v:Int} {vs:List Int}:rle (v::vs)≠[]:=by
 simp only[rle]
 split
 ·simp
 ·split <;> simp
theorem yo6 (vs:List Int) (v:Int):rle (vs++[v])=push (rle vs) v:=by
 induction vs with
 | nil=>rfl
 | cons x vs ih =>
  rw[List.cons_append]
  cases vs with
  | nil =>
   simp only[List.nil_append,rle,push]
   by_cases e:v=x
   ·subst e;simp
   ·simp [e,Ne.symm e]
  | cons y vs =>
   have hne:rle (y::vs)≠[]:=rle_ne
   rw[show rle (x::((y::vs)++[v]))=(match rle ((y::vs)++[v]) with|[]=>[(x,1)]|(u,n)::r=>if u=x then (u,n+1)::r else (x,1)::(u,n)::r) from rfl,ih]
   rw[show rle (x::y::vs)=(match rle (y::vs) with|[]=>[(x,1)]|(u,n)::r=>if u=x then (u,n+1)::r else (x,1)::(u,n)::r) from rfl]
   generalize rle (y::vs)=R at hne
   match R,hne with
   | (u,n)::r,_ =>
    simp only
    by_cases hr:r=[]
    ·subst hr
     unfold push
     simp only[List.getLast?_singleton]
     by_cases e1:u=v <;> by_cases e2:u=x <;> simp [e1,e2,push]
     all_goals (first|(subst e1;simp [e2])|skip)
     all_goals (simp_all)
    ·rw[yim _ hr]
     simp only
     split
     ·rw[yim _ hr]
     ·rw[yim _ (by simp),yim _ hr]
def runB (r:Int×Nat):List Int:=vput (ycg r.1)++vput r.2
def yeg (vs:List Int):List Int×Int:=if vs.length≤4096 then (vput (rle vs).length++((rle vs).map runB).flatten,0) else ([],4)
def yc6 (b:List Int):Nat→Nat→List Int→List Int×Nat×Int
 | 0,p,out=>(out,p,0)
 | n+1,p,out =>
  if (vget b p).2.2≠0 then ([],0,(vget b p).2.2) else
  if (vget b (vget b p).2.1).2.2≠0 then ([],0,(vget b (vget b p).2.1).2.2) else
  if (vget b (vget b p).2.1).1=0 then ([],0,5) else
  if out.getLast?=some (ydh (vget b p).1) then ([],0,5) else
  if 4096-out.length<(vget b (vget b p).2.1).1 then ([],0,4) else
  yc6 b n (vget b (vget b p).2.1).2.1 (out++List.replicate (vget b (vget b p).2.1).1 (ydh (vget b p).1))
def ydx (b:List Int):List Int×Int:=
 if (vget b 0).2.2≠0 then ([],(vget b 0).2.2) else
 if 4096<(vget b 0).1 then ([],4) else
 if (yc6 b (vget b 0).1 (vget b 0).2.1 []).2.2≠0 then ([],(yc6 b (vget b 0).1 (vget b 0).2.1 []).2.2) else
 if (yc6 b (vget b 0).1 (vget b 0).2.1 []).2.1<b.length then ([],3) else ((yc6 b (vget b 0).1 (vget b 0).2.1 []).1,0)
theorem yln {out:List Int} {k:Nat} {v:Int} (hk:0<k):(out++List.replicate k v).getLast?=some v:=by
 obtain⟨m,rfl⟩:∃ m,k=m+1:=⟨k-1,by omega⟩
 rw[List.replicate_succ',← List.append_assoc,List.getLast?_concat]
def Fits (out:List Int) (rs:List (Int×Nat)):Prop:=ygk rs∧∀ r∈rs.head?,out.getLast?≠some r.1
theorem ygk.tail {r:Int×Nat} {rs:List (Int×Nat)} (h:ygk (r::rs)):0<r.2∧ygk rs∧∀ s∈rs.head?,s.1≠r.1:=by
 cases rs with
 | nil=>exact⟨h,trivial,fun s hs=>by simp at hs⟩
 | cons a rs =>
  obtain⟨h1,h2,h3⟩:=h
  exact⟨h1,h3,fun s hs=>by simp at hs;subst hs;exact h2⟩
theorem ygk.cons {r:Int×Nat} {rs:List (Int×Nat)} (h0:0<r.2) (h:ygk rs) (hn:∀ s∈rs.head?,s.1≠r.1):ygk (r::rs):=by
 cases rs with
 | nil=>exact h0
 | cons a rs=>exact⟨h0,hn a (by simp),h⟩
theorem yjk (r:Int×Nat) (rs:List (Int×Nat)):yff (r::rs)=List.replicate r.2 r.1++yff rs:=by simp [yff]
theorem you {b:List Int}:∀ (rs:List (Int×Nat)) (p:Nat) (out Y:List Int),Fits out rs→(∀ r∈rs,I64 r.1)→out.length+(yff rs).length≤4096→b.drop p=(rs.map runB).flatten++Y →
  yc6 b rs.length p out=(out++yff rs,p+((rs.map runB).flatten).length,0):=by
 intro rs
 induction rs with
 | nil=>intro p out Y _ _ _ _;simp [yc6,yff]
 | cons r rs ih =>
  intro p out Y hf hi hl hd
  obtain⟨h0,h1,h2⟩:=hf.1.tail
  have hu:(yff (r::rs)).length=r.2+(yff rs).length:=by rw[yjk];simp
  rw[hu] at hl
  have e:((r::rs).map runB).flatten=runB r++(rs.map runB).flatten:=by simp
  rw[e] at hd ⊢
  unfold runB at hd
  rw[List.append_assoc,List.append_assoc] at hd
  have g1:=yfn (yfd (hi r (by simp))) hd
  have hd2:=yd6 hd
  have g2:=yfn (by omega) hd2
  have hd3:=yd6 hd2
  rw[List.length_cons,yc6,g1]
  simp only
  rw[g2]
  simp only
  rw[if_neg (by simp),if_neg (by simp),if_neg (by omega),yi1,if_neg (hf.2 r (by simp)),if_neg (by omega)]
  rw[ih _ _ Y ⟨h1,fun s hs=>by rw[yln h0];intro e;injection e with e;exact h2 s hs e.symm⟩ (fun s hs=>hi s (by simp [hs])) (by simp;omega) hd3]
  rw[yjk]
  simp [runB]
  omega
theorem yoj {b:List Int} (hb:Bys b):∀ (n p:Nat) (out:List Int),p≤b.length→out.length≤4096→(yc6 b n p out).2.2=0 →
  ∃ rs,rs.length=n∧Fits out rs∧(∀ r∈rs,I64 r.1)∧(yc6 b n p out).1=out++yff rs∧(yc6 b n p out).1.length≤4096∧(yc6 b n p out).2.1≤b.length∧b.drop p=(rs.map runB).flatten++b.drop (yc6 b n p out).2.1:=by
 intro n
 induction n with
 | zero =>
  intro p out hp ho h
  exact⟨[],rfl,⟨trivial,fun r hr=>(by simp at hr)⟩,fun r hr=>(by cases hr),by simp [yc6,yff],ho,hp,by simp [yc6]⟩
 | succ n ih =>
  intro p out hp ho h
  rw[yc6] at h ⊢
  rcases hg:vget b p with ⟨u,q,e⟩
  rw[hg] at h
  simp only at h ⊢
  by_cases he:e=0
  rotate_left
  ·rw[if_pos he] at h;exact absurd h he
  subst he
  rw[if_neg (by simp)] at h ⊢
  rcases hg2:vget b q with ⟨k,t,e⟩
  rw[hg2] at h
  simp only at h ⊢
  by_cases he:e=0
  rotate_left
  ·rw[if_pos he] at h;exact absurd h he
  subst he
  rw[if_neg (by simp)] at h ⊢
  by_cases hk:k=0
  ·rw[if_pos hk] at h;exact absurd h (by decide)
  rw[if_neg hk] at h ⊢
  by_cases hv:out.getLast?=some (ydh u)
  ·rw[if_pos hv] at h;exact absurd h (by decide)
  rw[if_neg hv] at h ⊢
  by_cases hm:4096-out.length<k
  ·rw[if_pos hm] at h;exact absurd h (by decide)
  rw[if_neg hm] at h ⊢
  obtain⟨k1,k2,k3⟩:=yes hb hg
  obtain⟨k4,k5,k6⟩:=yes hb hg2
  obtain⟨rs,h1,h2,h3,h4,h5,h6,h7⟩:=ih t (out++List.replicate k (ydh u)) k5 (by simp;omega) h
  have hu:u<18446744073709551616:=by have:=ye4 hb (p:=p) (by rw[hg]);rw[hg] at this;exact this
  refine⟨(ydh u,k)::rs,by simp [h1],⟨ygk.cons (by show 0<k;omega) h2.1 (fun s hs e=>h2.2 s hs (by rw[yln (by omega)];rw[e])),fun r hr=>by simp at hr;subst hr;exact hv⟩,fun r hr=>?_,?_,h5,h6,?_⟩
  ·rcases List.mem_cons.1 hr with rfl|hr
   ·exact yhf hu
   ·exact h3 r hr
  ·rw[h4,yjk];simp
  ·rw[k3,k6,h7]
   simp [runB,yi4]
theorem yp6 {vs:List Int} (hl:vs.length≤4096) (hi:∀ v∈vs,I64 v):ydx (yeg vs).1=(vs,0):=by
 unfold yeg
 rw[if_pos hl]
 simp only
 generalize hB:vput (rle vs).length++((rle vs).map runB).flatten=B
 have hr:=yf8 vs
 have hd:B.drop 0=vput (rle vs).length++((rle vs).map runB).flatten:=by rw[hB];rfl
 have g:=yfn (by omega) hd
 have hd2:=yd6 hd
 have hL:=you (b:=B) (rle vs) (0+(vput (rle vs).length).length) [] [] ⟨rle_ok vs,fun r _=>by simp⟩ (fun r hr=>hi _ (yja hr).1) (by rw[ynp];simpa using hl) (by rw[hd2,List.append_nil])
 have hlen:B.length=(vput (rle vs).length).length+((rle vs).map runB).flatten.length:=by rw[← hB,List.length_append]
 unfold ydx
 rw[g]
 simp only
 rw[if_neg (by simp),if_neg (by omega),hL]
 simp only
 rw[if_neg (by simp),if_neg (by omega),List.nil_append,ynp]
theorem yi2 {b:List Int} (hb:Bys b) (h:(ydx b).2=0):yeg (ydx b).1=(b,0)∧(∀ v∈(ydx b).1,I64 v)∧(ydx b).1.length≤4096:=by
 unfold ydx at h ⊢
 rcases hg:vget b 0 with ⟨n,q,e⟩
 rw[hg] at h
 simp only at h ⊢
 by_cases he:e=0
 rotate_left
 ·rw[if_pos he] at h;exact absurd h he
 subst he
 rw[if_neg (by simp)] at h ⊢
 by_cases hn:4096<n
 ·rw[if_pos hn] at h;exact absurd h (by decide)
 rw[if_neg hn] at h ⊢
 obtain⟨k1,k2,k3⟩:=yes hb hg
 by_cases hL:(yc6 b n q []).2.2=0
 rotate_left
 ·rw[if_pos hL] at h;exact absurd h hL
 rw[if_neg (by simpa using hL)] at h ⊢
 obtain⟨rs,h1,h2,h3,h4,h5,h6,h7⟩:=yoj hb n q [] k2 (by simp) hL
 by_cases ht:(yc6 b n q []).2.1<b.length
 ·rw[if_pos ht] at h;exact absurd h (by decide)
 rw[if_neg ht]
 simp only
 rw[List.nil_append] at h4
 refine⟨?_,fun v hv=>?_,h5⟩
 ·unfold yeg
  rw[if_pos h5,h4,ym6 h2.1,h1]
  have:b=vput n++(rs.map runB).flatten:=by
   have e1:b.drop 0=b:=rfl
   rw[← e1,k3,h7,List.drop_eq_nil_of_le (show b.length≤(yc6 b n q []).2.1 by omega),List.append_nil]
  rw[← this]
 ·rw[h4] at hv
  unfold yff at hv
  obtain⟨l,hl,hv⟩:=List.mem_flatten.1 hv
  obtain⟨r,hr,rfl⟩:=List.mem_map.1 hl
  rw[List.eq_of_mem_replicate hv]
  exact h3 r hr
theorem ypm {b:List Int} (h:(ydx b).2≠0):(ydx b).1=[]:=by
 unfold ydx at h ⊢
 repeat' split
 all_goals simp_all
theorem yh5 {x w:Nat} (hx:x<2^64) (hw:w≤64):Lib.bitLen x≤w↔x<2^w:=by
 constructor
 ·intro h
  have:=ym8 64 x hx
  exact Nat.lt_of_lt_of_le this (Nat.pow_le_pow_right (by decide) h)
 ·intro h;exact Lib.bitLen_le x w hw h
theorem yjv {x:Nat} (hx:x<2^64):Lib.bitLen x≤64:=Lib.bitLen_le x 64 (by decide) hx
def widS:List Int→Nat
 | []=>0
 | u::us=>max (Lib.bitLen u.toNat) (widS us)
def U64s (us:List Int):Prop:=∀ u∈us,0≤u∧u<18446744073709551616
theorem yjh {us:List Int} (h:U64s us):widS us≤64:=by
 induction us with
 | nil=>simp [widS]
 | cons u us ih =>
  have h0:=h u (by simp)
  have h1:Lib.bitLen u.toNat≤64:=yjv (by omega)
  have h2:=ih (fun v hv=>h v (by simp [hv]))
  simp only[widS]
  omega
theorem yly {us:List Int} (h:U64s us) {w:Nat} (hw:w≤64):widS us≤w↔Fit w us:=by
 induction us with
 | nil=>exact⟨fun _ u hu=>(by cases hu),fun _=>(by simp [widS])⟩
 | cons u us ih =>
  have h0:=h u (by simp)
  have ih:=ih (fun v hv=>h v (by simp [hv]))
  have hb:=yh5 (x:=u.toNat) (w:=w) (by omega) hw
  simp only[widS]
  rw[show max (Lib.bitLen u.toNat) (widS us)≤w↔Lib.bitLen u.toNat≤w∧widS us≤w by omega,hb,ih]
  constructor
  ·rintro⟨h1,h2⟩ v hv
   rcases List.mem_cons.1 hv with rfl|hv
   ·refine⟨h0.1,?_⟩
    have:((v.toNat:Nat):Int)<((2^w:Nat):Int):=by exact_mod_cast h1
    rw[Int.toNat_of_nonneg h0.1] at this
    push_cast at this
    exact this
   ·exact h2 v hv
  ·intro hf
   refine⟨?_,fun v hv=>hf v (by simp [hv])⟩
   have:=(hf u (by simp)).2
   have h3:((u.toNat:Nat):Int)<((2^w:Nat):Int):=by rw[Int.toNat_of_nonneg h0.1];push_cast;exact this
   exact_mod_cast h3
theorem yke {us:List Int} (h:U64s us):Fit (widS us) us:=(yly h (yjh h)).1 (Nat.le_refl _)
theorem Fit.u64 {w:Nat} {us:List Int} (hw:w≤64) (h:Fit w us):U64s us:=fun u hu=>by
 refine⟨(h u hu).1,?_⟩
 have h1:=(h u hu).2
 have h2:(2:Nat)^w≤2^64:=Nat.pow_le_pow_right (by decide) hw
 have h3:((2^w:Nat):Int)≤((18446744073709551616:Nat):Int):=Int.ofNat_le.2 h2
 rw[Int.natCast_pow] at h3
 have h4:((2:Nat):Int)=2:=rfl
 rw[h4] at h3
 omega
def yc8:List Int→Int
 | []=>0
 | [v]=>v
 | v::u::vs=>min v (yc8 (u::vs))
theorem yhv:∀ {vs:List Int} {v:Int},v∈vs→yc8 vs≤v
 | [a],v,h=>by simp at h;subst h;exact Int.le_refl _
 | a::u::vs,v,h=>by
  simp only[yc8]
  rcases List.mem_cons.1 h with rfl|h
  ·omega
  ·have:=yhv h;omega
theorem yfv:∀ {vs:List Int},vs≠[]→yc8 vs∈vs
 | [a],_=>by simp [yc8]
 | a::u::vs,_=>by
  have:=yfv (vs:=u::vs) (by simp)
  simp only[yc8]
  by_cases h:a≤yc8 (u::vs)
  ·rw[Int.min_eq_left h];simp
  ·rw[Int.min_eq_right (by omega)];exact List.mem_cons_of_mem _ this
theorem ykc {vs:List Int} {m:Int} (hm:m∈vs) (h:∀ v∈vs,m≤v):yc8 vs=m:=by
 have h1:=yhv hm
 have h2:=h _ (yfv (List.ne_nil_of_mem hm))
 omega
def farS (vs:List Int):List Int:=vs.map fun v=>v-yc8 vs
theorem yjo {vs:List Int} (h:∀ v∈vs,I64 v):U64s (farS vs):=by
 intro u hu
 obtain⟨v,hv,rfl⟩:=List.mem_map.1 hu
 have h1:=yhv hv
 obtain⟨h2,h3⟩:=h v hv
 obtain⟨h4,h5⟩:=h _ (yfv (List.ne_nil_of_mem hv))
 omega
theorem farS_zero {vs:List Int} (h:vs≠[]):(0:Int)∈farS vs:=List.mem_map.2 ⟨_,yfv h,by omega⟩
def ye9 (vs:List Int):List Int×Int:=
 if 4096<vs.length then ([],4) else if vs.length=0 then (vput 0,0) else
 (vput vs.length++vput (ycg (yc8 vs))++[((widS (farS vs):Nat):Int)]++ydg (widS (farS vs)) (farS vs),0)
def yfu (b:List Int) (p n:Nat):List Int×Int:=
 if b.length≤p then ([],2) else
 if 64<b.getD p 0 then ([],5) else
 if (yci (b.drop (p+1)) (b.getD p 0).toNat n).2≠0 then ([],(yci (b.drop (p+1)) (b.getD p 0).toNat n).2) else
 if widS (yci (b.drop (p+1)) (b.getD p 0).toNat n).1≠(b.getD p 0).toNat∨(0:Int) ∉ (yci (b.drop (p+1)) (b.getD p 0).toNat n).1 then ([],5) else
 ((yci (b.drop (p+1)) (b.getD p 0).toNat n).1,0)
def yif (least:Int) (us:List Int):List Int×Int:=if ∃ d∈us,9223372036854775807-least<d then ([],5) else (us.map fun d=>least+d,0)
def yfa (b:List Int):List Int×Int:=
 if (vget b 0).2.2≠0 then ([],(vget b 0).2.2) else
 if 4096<(vget b 0).1 then ([],4) else
 if (vget b 0).1=0 then (if (vget b 0).2.1<b.length then ([],3) else ([],0)) else
 if (vget b (vget b 0).2.1).2.2≠0 then ([],(vget b (vget b 0).2.1).2.2) else
 if (yfu b (vget b (vget b 0).2.1).2.1 (vget b 0).1).2≠0 then ([],(yfu b (vget b (vget b 0).2.1).2.1 (vget b 0).1).2) else
 yif (ydh (vget b (vget b 0).2.1).1) (yfu b (vget b (vget b 0).2.1).2.1 (vget b 0).1).1
theorem yk9 {b Y:List Int} {p:Nat} {x:Int} (h:b.drop p=x::Y):p<b.length∧b.getD p 0=x∧b.drop (p+1)=Y:=by
 obtain⟨h1,h2,h3⟩:=ykh h
 exact⟨h1,by rw[List.getD_eq_getElem?_getD,List.getElem?_eq_getElem h1,Option.getD_some,h2],h3⟩
theorem dec_encPk {vs:List Int} (hl:vs.length≤4096) (hi:∀ v∈vs,I64 v):yfa (ye9 vs).1=(vs,0):=by
 unfold ye9
 rw[if_neg (by omega)]
 by_cases h0:vs.length=0
 ·rw[if_pos h0]
  obtain rfl:=List.eq_nil_of_length_eq_zero h0
  decide
 rw[if_neg h0]
 simp only
 have hne:vs≠[]:=fun e=>h0 (by rw[e];rfl)
 have hu:=yjo hi
 have hw:=yjh hu
 have hf:=yke hu
 have hfl:(farS vs).length=vs.length:=by simp [farS]
 have hI:=hi _ (yfv hne)
 have hB:vput vs.length++vput (ycg (yc8 vs))++[((widS (farS vs):Nat):Int)]++ydg (widS (farS vs)) (farS vs)=vput vs.length++(vput (ycg (yc8 vs))++(((widS (farS vs):Nat):Int)::ydg (widS (farS vs)) (farS vs))):=by rw[List.append_assoc,List.append_assoc];rfl
 rw[hB]
 generalize hB2:vput vs.length++(vput (ycg (yc8 vs))++(((widS (farS vs):Nat):Int)::ydg (widS (farS vs)) (farS vs)))=B
 have hd:B.drop 0=vput vs.length++(vput (ycg (yc8 vs))++(((widS (farS vs):Nat):Int)::ydg (widS (farS vs)) (farS vs))):=hB2.symm
 have g1:=yfn (by omega) hd
 have hd2:=yd6 hd
 have g2:=yfn (yfd hI) hd2
 have hd3:=yd6 hd2
 obtain⟨k1,k2,k3⟩:=yk9 hd3
 unfold yfa
 rw[g1]
 simp only
 rw[if_neg (by simp),if_neg (by omega),if_neg h0,g2]
 simp only
 rw[if_neg (by simp)]
 have hun:=yi3 hf
 rw[hfl] at hun
 have hds:yfu B (0+(vput vs.length).length+(vput (ycg (yc8 vs))).length) vs.length=(farS vs,0):=by
  unfold yfu
  rw[if_neg (by omega),k2,if_neg (by omega),k3,Int.toNat_natCast,hun]
  simp only
  rw[if_neg (by simp),if_neg]
  rintro(h|h)
  ·exact h rfl
  ·exact h (farS_zero hne)
 rw[hds]
 simp only
 rw[if_neg (by simp),yi1]
 unfold yif
 rw[if_neg]
 ·rw[Prod.mk.injEq]
  refine⟨?_,rfl⟩
  unfold farS
  rw[List.map_map]
  conv=>rhs;rw[← List.map_id vs]
  refine List.map_congr_left fun v hv=>?_
  simp
  omega
 ·rintro⟨d,hd,hlt⟩
  obtain⟨v,hv,rfl⟩:=List.mem_map.1 hd
  have:=(hi v hv).2
  omega
theorem yol {b:List Int} (hb:Bys b) {p n:Nat} (h:(yfu b p n).2=0):∃ us w,yfu b p n=(us,0)∧us.length=n∧w≤64∧widS us=w∧Fit w us∧(0:Int)∈us∧b.drop p=((w:Nat):Int)::ydg w us:=by
 unfold yfu at h ⊢
 split at h
 ·simp at h
 rename_i h1
 rw[if_neg h1]
 split at h
 ·simp at h
 rename_i h2
 rw[if_neg h2]
 have hp:b.getD p 0=b[p]:=by rw[List.getD_eq_getElem?_getD,List.getElem?_eq_getElem (by omega),Option.getD_some]
 have hx:=hb b[p] (List.getElem_mem _)
 rw[hp] at h h2 ⊢
 split at h
 ·rename_i h3;exact absurd h h3
 rename_i h3
 rw[if_neg h3]
 split at h
 ·simp at h
 rename_i h4
 rw[if_neg h4]
 have h3':(yci (b.drop (p+1)) (b[p]).toNat n).2=0:=by simpa using h3
 have hpu:=ygf (hb.drop (p+1)) (us:=(yci (b.drop (p+1)) (b[p]).toNat n).1) (Prod.ext rfl h3')
 refine⟨_,(b[p]).toNat,rfl,hpu.1,by omega,?_,hpu.2.1,?_,?_⟩
 ·exact Decidable.byContradiction fun e=>h4 (.inl e)
 ·exact Decidable.byContradiction fun e=>h4 (.inr e)
 ·rw[hpu.2.2,Int.toNat_of_nonneg hx.1]
  exact List.drop_eq_getElem_cons _
theorem ykw {b:List Int} (hb:Bys b) (h:(yfa b).2=0):ye9 (yfa b).1=(b,0)∧(∀ v∈(yfa b).1,I64 v)∧(yfa b).1.length≤4096:=by
 unfold yfa at h ⊢
 rcases hg:vget b 0 with ⟨n,q,e⟩
 rw[hg] at h
 simp only at h ⊢
 by_cases he:e=0
 rotate_left
 ·rw[if_pos he] at h;exact absurd h he
 subst he
 rw[if_neg (by simp)] at h ⊢
 by_cases hn:4096<n
 ·rw[if_pos hn] at h;exact absurd h (by decide)
 rw[if_neg hn] at h ⊢
 obtain⟨k1,k2,k3⟩:=yes hb hg
 by_cases h0:n=0
 ·rw[if_pos h0] at h ⊢
  by_cases hq:q<b.length
  ·rw[if_pos hq] at h;exact absurd h (by decide)
  rw[if_neg hq]
  subst h0
  refine⟨?_,fun v hv=>(by cases hv),by simp⟩
  unfold ye9
  simp only[List.length_nil]
  rw[if_neg (by omega),if_pos trivial,Prod.mk.injEq]
  refine⟨?_,rfl⟩
  have e1:b.drop 0=b:=rfl
  rw[← e1,k3,List.drop_eq_nil_of_le (by omega),List.append_nil]
 rw[if_neg h0] at h ⊢
 rcases hg2:vget b q with ⟨u,t,e⟩
 rw[hg2] at h
 simp only at h ⊢
 by_cases he:e=0
 rotate_left
 ·rw[if_pos he] at h;exact absurd h he
 subst he
 rw[if_neg (by simp)] at h ⊢
 obtain⟨k4,k5,k6⟩:=yes hb hg2
 by_cases hd:(yfu b t n).2=0
 rotate_left
 ·rw[if_pos hd] at h;exact absurd h hd
 obtain⟨us,w,hds,hul,hw,hws,hf,hz,hdr⟩:=yol hb hd
 rw[hds] at h ⊢
 simp only at h ⊢
 rw[if_neg (by simp)] at h ⊢
 have hu:u<18446744073709551616:=by have:=ye4 hb (p:=q) (by rw[hg2]);rw[hg2] at this;exact this
 obtain⟨i1,i2⟩:=yhf hu
 unfold yif at h ⊢
 split at h
 ·simp at h
 rename_i hno
 rw[if_neg hno]
 simp only
 have hle:∀ d∈us,0≤d∧d≤9223372036854775807-ydh u:=fun d hd=>⟨(hf d hd).1,Int.not_lt.1 fun hlt=>hno ⟨d,hd,hlt⟩⟩
 have hlst:yc8 (us.map fun d=>ydh u+d)=ydh u:=ykc (List.mem_map.2 ⟨0,hz,by omega⟩) (fun v hv=>by obtain⟨d,hd,rfl⟩:=List.mem_map.1 hv;have:=(hle d hd).1;omega)
 have hfar:farS (us.map fun d=>ydh u+d)=us:=by
  unfold farS
  rw[hlst,List.map_map]
  conv=>rhs;rw[← List.map_id us]
  refine List.map_congr_left fun d hd=>?_
  simp
  omega
 refine⟨?_,fun v hv=>?_,by rw[List.length_map];omega⟩
 ·unfold ye9
  rw[List.length_map,hul,if_neg hn,if_neg h0,hlst,hfar,hws,yi4]
  rw[Prod.mk.injEq]
  refine⟨?_,rfl⟩
  have e1:b.drop 0=b:=rfl
  conv=>rhs;rw[← e1,k3,k6,hdr]
  simp
 ·obtain⟨d,hd,rfl⟩:=List.mem_map.1 hv
  have:=hle d hd
  unfold I64
  omega
theorem decPk_err {b:List Int} (h:(yfa b).2≠0):(yfa b).1=[]:=by
 unfold yfa yif at h ⊢
 repeat' split
 all_goals simp_all
def ycq:List Int→List Int→Nat
 | x::xs,y::ys=>if x=y then ycq xs ys+1 else 0
 | _,_=>0
theorem ygg:∀ (a b:List Int),ycq a b≤a.length∧ycq a b≤b.length∧a.take (ycq a b)=b.take (ycq a b)
 | [],b=>by cases b <;> simp [ycq]
 | x::a,[]=>by simp [ycq]
 | x::a,y::b=>by
  obtain⟨h1,h2,h3⟩:=ygg a b
  simp only[ycq]
  split
  ·rename_i e
   subst e
   simp
   exact⟨h1,h2,h3⟩
  ·simp
def preK (last s:List Int) (whole:Bool):Nat:=if whole then 0 else ycq last s
def yfo (last s:List Int) (whole:Bool):List Int:=vput (preK last s whole)++vput (s.length-preK last s whole)++s.drop (preK last s whole)
def yb7:Nat→List Int→List (List Int)→List Int
 | _,_,[]=>[]
 | i,last,s::ss=>yfo last s (decide (i%16=0))++yb7 (i+1) s ss
def yei (ss:List (List Int)):List Int×Int:=if 4096<ss.length∨∃ s∈ss,200<s.length then ([],4) else (vput ss.length++yb7 0 [] ss,0)
def yc3 (b:List Int) (p:Nat) (last:List Int) (whole:Bool):List Int×Nat×Int:=
 if (vget b p).2.2≠0 then ([],0,(vget b p).2.2) else
 if (vget b (vget b p).2.1).2.2≠0 then ([],0,(vget b (vget b p).2.1).2.2) else
 if last.length<(vget b p).1∨(whole=true∧0<(vget b p).1) then ([],0,5) else
 if 200<(vget b p).1+(vget b (vget b p).2.1).1 then ([],0,4) else
 if b.length-(vget b (vget b p).2.1).2.1<(vget b (vget b p).2.1).1 then ([],0,2) else
 if whole=false∧ycq last (last.take (vget b p).1++(b.drop (vget b (vget b p).2.1).2.1).take (vget b (vget b p).2.1).1)≠(vget b p).1 then ([],0,5) else
 (last.take (vget b p).1++(b.drop (vget b (vget b p).2.1).2.1).take (vget b (vget b p).2.1).1,(vget b (vget b p).2.1).2.1+(vget b (vget b p).2.1).1,0)
def ydj (b:List Int):Nat→Nat→Nat→List Int→List (List Int)→List (List Int)×Nat×Int
 | 0,_,p,_,out=>(out,p,0)
 | n+1,i,p,last,out =>
  if (yc3 b p last (decide (i%16=0))).2.2≠0 then ([],0,(yc3 b p last (decide (i%16=0))).2.2) else
  ydj b n (i+1) (yc3 b p last (decide (i%16=0))).2.1 (yc3 b p last (decide (i%16=0))).1 (out++[(yc3 b p last (decide (i%16=0))).1])
def yd9 (b:List Int):List (List Int)×Int:=
 if (vget b 0).2.2≠0 then ([],(vget b 0).2.2) else
 if 4096<(vget b 0).1 then ([],4) else
 if (ydj b (vget b 0).1 0 (vget b 0).2.1 [] []).2.2≠0 then ([],(ydj b (vget b 0).1 0 (vget b 0).2.1 [] []).2.2) else
 if (ydj b (vget b 0).1 0 (vget b 0).2.1 [] []).2.1<b.length then ([],3) else ((ydj b (vget b 0).1 0 (vget b 0).2.1 [] []).1,0)
theorem ypu {b last s Y:List Int} {p:Nat} {whole:Bool} (hs:s.length≤200) (hb:p≤b.length) (h:b.drop p=yfo last s whole++Y):yc3 b p last whole=(s,p+(yfo last s whole).length,0):=by
 obtain⟨k1,k2,k3⟩:=ygg last s
 have hk:preK last s whole≤s.length∧preK last s whole≤last.length∧last.take (preK last s whole)=s.take (preK last s whole):=by
  unfold preK
  split
  ·simp
  ·exact⟨k2,k1,k3⟩
 have h0:=h
 unfold yfo at h
 rw[List.append_assoc,List.append_assoc] at h
 have g1:=yfn (by omega) h
 have h2:=yd6 h
 have g2:=yfn (by omega) h2
 have h3:=yd6 h2
 have hl:s.length-preK last s whole≤b.length-(p+(vput (preK last s whole)).length+(vput (s.length-preK last s whole)).length):=by
  have:=congrArg List.length h3
  rw[List.length_drop,List.length_append,List.length_drop] at this
  omega
 have ht:last.take (preK last s whole)++(b.drop (p+(vput (preK last s whole)).length+(vput (s.length-preK last s whole)).length)).take (s.length-preK last s whole)=s:=by
  rw[h3,List.take_append_of_le_length (by rw[List.length_drop];omega),List.take_of_length_le (l:=s.drop (preK last s whole)) (by rw[List.length_drop];omega),hk.2.2,List.take_append_drop]
 unfold yc3
 rw[g1]
 simp only
 rw[g2]
 simp only
 rw[if_neg (by simp),if_neg (by simp),if_neg,if_neg (by omega),if_neg (by omega),ht,if_neg]
 ·rw[Prod.mk.injEq,Prod.mk.injEq]
  refine⟨rfl,?_,rfl⟩
  unfold yfo
  simp
  omega
 ·rintro⟨h5,h6⟩
  exact h6 (by unfold preK;rw[h5];rfl)
 ·rintro(h5|⟨h5,h6⟩)
  ·omega
  ·unfold preK at h6
   rw[h5] at h6
   simp at h6
theorem ypy {b last:List Int} (hb:Bys b) {p:Nat} {whole:Bool} (h:(yc3 b p last whole).2.2=0) :
  (yc3 b p last whole).1.length≤200∧p<(yc3 b p last whole).2.1∧(yc3 b p last whole).2.1≤b.length∧b.drop p=yfo last (yc3 b p last whole).1 whole++b.drop (yc3 b p last whole).2.1:=by
 unfold yc3 at h ⊢
 rcases hg:vget b p with ⟨k,q,e⟩
 rw[hg] at h
 simp only at h ⊢
 by_cases he:e=0
 rotate_left
 ·rw[if_pos he] at h;exact absurd h he
 subst he
 rw[if_neg (by simp)] at h ⊢
 rcases hg2:vget b q with ⟨m,t,e⟩
 rw[hg2] at h
 simp only at h ⊢
 by_cases he:e=0
 rotate_left
 ·rw[if_pos he] at h;exact absurd h he
 subst he
 rw[if_neg (by simp)] at h ⊢
 split at h
 ·simp at h
 rename_i h1
 rw[if_neg h1]
 split at h
 ·simp at h
 rename_i h2
 rw[if_neg h2]
 split at h
 ·simp at h
 rename_i h3
 rw[if_neg h3]
 split at h
 ·simp at h
 rename_i h4
 rw[if_neg h4]
 simp only
 obtain⟨k1,k2,k3⟩:=yes hb hg
 obtain⟨k4,k5,k6⟩:=yes hb hg2
 have hkl:k≤last.length:=Nat.not_lt.1 fun h=>h1 (.inl h)
 have hlen:(last.take k++(b.drop t).take m).length=k+m:=by simp;omega
 have hpk:preK last (last.take k++(b.drop t).take m) whole=k:=by
  unfold preK
  cases whole with
  | true =>
   have:¬ 0<k:=fun hk=>h1 (.inr ⟨rfl,hk⟩)
   simp;omega
  | false=>exact Decidable.byContradiction fun e=>h4 ⟨rfl,e⟩
 refine⟨by omega,by omega,by omega,?_⟩
 unfold yfo
 have hdk:(last.take k++(b.drop t).take m).drop k=(b.drop t).take m:=by
  rw[List.drop_append_of_le_length (by rw[List.length_take];omega),List.drop_of_length_le (l:=last.take k) (by rw[List.length_take];omega),List.nil_append]
 rw[hpk,hlen,show k+m-k=m from by omega,hdk,k3,k6,List.append_assoc,List.append_assoc,← List.drop_drop,List.take_append_drop]
theorem yp2 {b:List Int}:∀ (ss:List (List Int)) (i p:Nat) (last Y:List Int) (out:List (List Int)),(∀ s∈ss,s.length≤200)→p≤b.length→b.drop p=yb7 i last ss++Y →
  ydj b ss.length i p last out=(out++ss,p+(yb7 i last ss).length,0):=by
 intro ss
 induction ss with
 | nil=>intro i p last Y out _ _ _;simp [ydj,yb7]
 | cons s ss ih =>
  intro i p last Y out hs hp hd
  simp only[yb7] at hd ⊢
  rw[List.append_assoc] at hd
  have g:=ypu (hs s (by simp)) hp hd
  have hd2:=yd6 hd
  have hp2:p+(yfo last s (decide (i%16=0))).length≤b.length:=by
   have:=congrArg List.length hd
   rw[List.length_drop,List.length_append] at this
   by_cases e:(yfo last s (decide (i%16=0))).length=0 <;> omega
  rw[List.length_cons,ydj,g]
  simp only
  rw[if_neg (by simp),ih (i+1) _ s Y _ (fun x hx=>hs x (by simp [hx])) hp2 hd2]
  simp
  omega
theorem ypq {b:List Int} (hb:Bys b):∀ (n i p:Nat) (last:List Int) (out:List (List Int)),p≤b.length→(ydj b n i p last out).2.2=0 →
  ∃ ss,ss.length=n∧(∀ s∈ss,s.length≤200)∧(ydj b n i p last out).1=out++ss∧(ydj b n i p last out).2.1≤b.length∧b.drop p=yb7 i last ss++b.drop (ydj b n i p last out).2.1:=by
 intro n
 induction n with
 | zero =>
  intro i p last out hp h
  exact⟨[],rfl,fun s hs=>(by cases hs),by simp [ydj],hp,by simp [ydj,yb7]⟩
 | succ n ih =>
  intro i p last out hp h
  rw[ydj] at h ⊢
  by_cases he:(yc3 b p last (decide (i%16=0))).2.2=0
  rotate_left
  ·rw[if_pos he] at h;exact absurd h he
  rw[if_neg (by simpa using he)] at h ⊢
  obtain⟨h1,h2,h3,h4⟩:=ypy hb he
  obtain⟨ss,e1,e2,e3,e4,e5⟩:=ih (i+1) _ _ _ h3 h
  refine⟨(yc3 b p last (decide (i%16=0))).1::ss,by simp [e1],fun s hs=>?_,(by rw[e3,List.append_assoc];rfl),e4,?_⟩
  ·rcases List.mem_cons.1 hs with rfl|hs
   ·exact h1
   ·exact e2 s hs
  ·simp only[yb7]
   conv=>lhs;rw[h4,e5]
   rw[List.append_assoc]
theorem yqd {ss:List (List Int)} (h:(yei ss).2=0):yd9 (yei ss).1=(ss,0):=by
 unfold yei at h ⊢
 split at h
 ·simp at h
 rename_i hno
 rw[if_neg hno]
 simp only
 have hl:ss.length≤4096:=Nat.not_lt.1 fun h=>hno (.inl h)
 have hs:∀ s∈ss,s.length≤200:=fun s hs=>Nat.not_lt.1 fun h=>hno (.inr ⟨s,hs,h⟩)
 generalize hB:vput ss.length++yb7 0 [] ss=B
 have hd:B.drop 0=vput ss.length++yb7 0 [] ss:=by rw[hB];rfl
 have g:=yfn (by omega) hd
 have hd2:=yd6 hd
 have hlen:B.length=(vput ss.length).length+(yb7 0 [] ss).length:=by rw[← hB,List.length_append]
 have hL:=yp2 (b:=B) ss 0 (0+(vput ss.length).length) [] [] [] hs (by omega) (by rw[hd2,List.append_nil])
 unfold yd9
 rw[g]
 simp only
 rw[if_neg (by simp),if_neg (by omega),hL]
 simp only
 rw[if_neg (by simp),if_neg (by omega),List.nil_append]
theorem yjm {b:List Int} (hb:Bys b) (h:(yd9 b).2=0):yei (yd9 b).1=(b,0)∧(∀ s∈(yd9 b).1,s.length≤200)∧(yd9 b).1.length≤4096:=by
 unfold yd9 at h ⊢
 rcases hg:vget b 0 with ⟨n,q,e⟩
 rw[hg] at h
 simp only at h ⊢
 by_cases he:e=0
 rotate_left
 ·rw[if_pos he] at h;exact absurd h he
 subst he
 rw[if_neg (by simp)] at h ⊢
 by_cases hn:4096<n
 ·rw[if_pos hn] at h;exact absurd h (by decide)
 rw[if_neg hn] at h ⊢
 obtain⟨k1,k2,k3⟩:=yes hb hg
 by_cases hL:(ydj b n 0 q [] []).2.2=0
 rotate_left
 ·rw[if_pos hL] at h;exact absurd h hL
 rw[if_neg (by simpa using hL)] at h ⊢
 obtain⟨ss,h1,h2,h3,h4,h5⟩:=ypq hb n 0 q [] [] k2 hL
 by_cases ht:(ydj b n 0 q [] []).2.1<b.length
 ·rw[if_pos ht] at h;exact absurd h (by decide)
 rw[if_neg ht]
 simp only
 rw[List.nil_append] at h3
 rw[h3]
 refine⟨?_,h2,by omega⟩
 unfold yei
 rw[if_neg,h1]
 ·rw[Prod.mk.injEq]
  refine⟨?_,rfl⟩
  have e1:b.drop 0=b:=rfl
  conv=>rhs;rw[← e1,k3,h5,List.drop_eq_nil_of_le (show b.length≤(ydj b n 0 q [] []).2.1 by omega),List.append_nil]
 ·rintro(h6|⟨s,hs,h6⟩)
  ·omega
  ·have:=h2 s hs;omega
theorem yqk {b:List Int} (h:(yd9 b).2≠0):(yd9 b).1=[]:=by
 unfold yd9 at h ⊢
 repeat' split
 all_goals simp_all
theorem ylv {b last:List Int} (hb:Bys b) (hl:Bys last) {p:Nat} {whole:Bool}:Bys (yc3 b p last whole).1:=by
 unfold yc3
 repeat' split
 all_goals first|exact fun x hx=>(by cases hx)|exact(hl.take _).append ((hb.drop _).take _)
theorem yp0 {b:List Int} (hb:Bys b):∀ (n i p:Nat) (last:List Int) (out:List (List Int)),Bys last→(∀ s∈out,Bys s)→∀ s∈(ydj b n i p last out).1,Bys s:=by
 intro n
 induction n with
 | zero=>intro i p last out _ ho;exact ho
 | succ n ih =>
  intro i p last out hl ho
  rw[ydj]
  split
  ·intro s hs;cases hs
  ·refine ih _ _ _ _ (ylv hb hl) fun s hs=>?_
   rcases List.mem_append.1 hs with hs|hs
   ·exact ho s hs
   ·rw[List.mem_singleton.1 hs];exact ylv hb hl
theorem yql {b:List Int} (hb:Bys b):∀ s∈(yd9 b).1,Bys s:=by
 unfold yd9
 repeat' split
 all_goals first|exact fun x hx=>(by cases hx)|exact yp0 hb _ _ _ _ _ (fun x hx=>(by cases hx)) (fun x hx=>(by cases hx))
abbrev Cel:=S53
def ygd (kind:Int):Int:=if kind=1 then -128 else if kind=2 then -32768 else if kind=3 then -2147483648 else if kind=4 then -9223372036854775808 else 0
def yg0 (kind:Int):Int:=if kind=1 then 127 else if kind=2 then 32767 else if kind=3 then 2147483647 else if kind=4 then 9223372036854775807 else if kind=5 then 65535 else 1
def yd3 (kind:Int) (c:Cel):Int:=
 if kind<1∨8<kind then 1 else
 if c.f0=true then (if c.f1≠0∨0<c.f2.length then 50 else 0) else
 if kind≤6 then (if 0<c.f2.length then 50 else if c.f1<ygd kind∨yg0 kind<c.f1 then 52 else 0) else
 if c.f1≠0 then 50 else if 200<c.f2.length then 4 else if kind=7∧(0:Int)∈c.f2 then 5 else 0
def yfq (kind:Int):List Cel→Int
 | []=>0
 | c::cs=>if yd3 kind c≠0 then yd3 kind c else yfq kind cs
def ycx (kind:Int) (cs:List Cel):Int:=if 4096<cs.length then 4 else yfq kind cs
theorem yj4 {kind:Int}:∀ {cs:List Cel},yfq kind cs=0↔∀ c∈cs,yd3 kind c=0
 | []=>⟨fun _ c hc=>(by cases hc),fun _=>rfl⟩
 | c::cs=>by
  simp only[yfq]
  by_cases h:yd3 kind c=0
  ·rw[if_neg (by simpa using h),yj4 (cs:=cs)]
   exact⟨fun h1 d hd=>(List.mem_cons.1 hd).elim (fun e=>e▸h) (h1 d),fun h1 d hd=>h1 d (by simp [hd])⟩
  ·rw[if_pos h]
   exact⟨fun e=>absurd e h,fun h1=>absurd (h1 c (by simp)) h⟩
theorem yid {kind:Int} {cs:List Cel}:ycx kind cs=0↔cs.length≤4096∧∀ c∈cs,yd3 kind c=0:=by
 unfold ycx
 by_cases h:4096<cs.length
 ·rw[if_pos h];exact⟨fun e=>absurd e (by decide),fun e=>absurd e.1 (by omega)⟩
 ·rw[if_neg h,yj4];exact⟨fun e=>⟨by omega,e⟩,fun e=>e.2⟩
def yew (c:Cel):Prop:=I64 c.f1∧Bys c.f2∧c.f2.length≤140737488355328
def yd0 (kind:Int):Prop:=1≤kind∧kind≤8
def ycz (kind codec:Int):Prop:=codec=1∨(kind≤6∧(codec=2∨codec=3))∨(6<kind∧(codec=4∨codec=5))
instance (kind codec:Int):Decidable (ycz kind codec):=by unfold ycz;infer_instance
def ydd (cs:List Cel):List Cel:=cs.filter fun c=>!c.f0
def ycm (cs:List Cel):List Int:=(ydd cs).map (·.f1)
def ybp (cs:List Cel):List (List Int):=(ydd cs).map (·.f2)
def yds (kind:Int) (c:Cel):List Int:=if kind≤6 then vput (ycg c.f1) else vput c.f2.length++c.f2
def yda (kind:Int) (cs:List Cel):List Int:=((ydd cs).map (yds kind)).flatten
def ycj (kind codec:Int) (cs:List Cel):List Int×Int:=
 if codec=2 then yeg (ycm cs) else if codec=3 then ye9 (ycm cs) else if codec=4 then encS (ybp cs) else if codec=5 then yei (ybp cs) else (yda kind cs,0)
def ych (c:Cel):Int:=if c.f0=true then 1 else 0
def ye7 (cs:List Cel):List Int:=if ∃ c∈cs,c.f0=true then 1::ydg 1 (cs.map ych) else [0]
def yek (codec:Int) (cs:List Cel):List Int:=codec::(vput cs.length++ye7 cs)
def yep (kind codec:Int) (cs:List Cel):List Int×Int:=
 if (ycj kind codec cs).2≠0 then ([],(ycj kind codec cs).2) else
 if 65000<(yek codec cs).length+(ycj kind codec cs).1.length+4 then ([],4) else (yel (yek codec cs++(ycj kind codec cs).1),0)
def ydb (kind codec:Int) (cs:List Cel):List Int×Int:=
 if kind<1∨8<kind then ([],1) else if ¬ ycz kind codec then ([],120) else if ycx kind cs≠0 then ([],ycx kind cs) else yep kind codec cs
def yf3 (kind:Int) (cs:List Cel):Nat→Int→Int→List Int→Int×List Int
 | 0,_,k,b=>(k,b)
 | n+1,c,k,b =>
  if ycz kind c then (if (yep kind c cs).2=0∧(k=0∨(yep kind c cs).1.length<b.length) then yf3 kind cs n (c+1) c (yep kind c cs).1 else yf3 kind cs n (c+1) k b)
  else yf3 kind cs n (c+1) k b
def ygn (kind:Int) (cs:List Cel):Int×List Int×Int:=
 if kind<1∨8<kind then (0,[],1) else if ycx kind cs≠0 then (0,[],ycx kind cs) else
 if (yf3 kind cs 5 1 0 []).1=0 then (0,[],4) else ((yf3 kind cs 5 1 0 []).1,(yf3 kind cs 5 1 0 []).2,0)
def yce (b:List Int) (p n:Nat):List Int×Nat×Int:=
 if b.length≤p then ([],0,2) else if 1<b.getD p 0 then ([],0,5) else if b.getD p 0=0 then (List.replicate n 0,p+1,0) else
 if b.length-p-1<(n+7) / 8 then ([],0,2) else
 if (yci ((b.drop (p+1)).take ((n+7) / 8)) 1 n).2≠0 then ([],0,(yci ((b.drop (p+1)).take ((n+7) / 8)) 1 n).2) else
 if widS (yci ((b.drop (p+1)).take ((n+7) / 8)) 1 n).1=0 then ([],0,5) else ((yci ((b.drop (p+1)).take ((n+7) / 8)) 1 n).1,p+1+(n+7) / 8,0)
def ye1 (v:Int):Cel:=⟨false,v,[]⟩
def yd2 (s:List Int):Cel:=⟨false,0,s⟩
def ydk (kind:Int) (b:List Int):Nat→Nat→List Cel→List Cel×Nat×Int
 | 0,p,out=>(out,p,0)
 | n+1,p,out =>
  if (vget b p).2.2≠0 then ([],0,(vget b p).2.2) else
  if kind≤6 then ydk kind b n (vget b p).2.1 (out++[ye1 (ydh (vget b p).1)]) else
  if 200<(vget b p).1 then ([],0,4) else if b.length-(vget b p).2.1<(vget b p).1 then ([],0,2) else
  ydk kind b n ((vget b p).2.1+(vget b p).1) (out++[yd2 ((b.drop (vget b p).2.1).take (vget b p).1)])
def ygv (kind:Int) (b:List Int) (n:Nat):List Cel×Int:=
 if (ydk kind b n 0 []).2.2≠0 then ([],(ydk kind b n 0 []).2.2) else if (ydk kind b n 0 []).2.1<b.length then ([],3) else ((ydk kind b n 0 []).1,0)
def yc0 (l:List Cel) (e:Int) (n:Nat):List Cel×Int:=if e≠0 then ([],e) else if l.length≠n then ([],5) else (l,0)
def yb6 (kind codec:Int) (b:List Int) (n:Nat):List Cel×Int:=
 if codec=1 then ygv kind b n else
 if codec=2 then yc0 ((ydx b).1.map ye1) (ydx b).2 n else
 if codec=3 then yc0 ((yfa b).1.map ye1) (yfa b).2 n else
 if codec=4 then yc0 ((decS b).1.map yd2) (decS b).2 n else yc0 ((yd9 b).1.map yd2) (yd9 b).2 n
def ye6:Cel:=⟨true,0,[]⟩
def yd5:List Int→List Cel→List Cel
 | [],_=>[]
 | u::us,vs=>if u=1 then ye6::yd5 us vs else vs.headD ye6::yd5 us vs.tail
def ybv (us:List Int):Nat:=us.count 0
def yhl (kind:Int) (b:List Int):List Cel×Int:=
 if b.length=0 then ([],2) else
 if ¬ ycz kind (b.getD 0 0) then ([],120) else
 if (vget b 1).2.2≠0 then ([],(vget b 1).2.2) else
 if 4096<(vget b 1).1 then ([],4) else
 if (yce b (vget b 1).2.1 (vget b 1).1).2.2≠0 then ([],(yce b (vget b 1).2.1 (vget b 1).1).2.2) else
 if (yb6 kind (b.getD 0 0) (b.drop (yce b (vget b 1).2.1 (vget b 1).1).2.1) (ybv (yce b (vget b 1).2.1 (vget b 1).1).1)).2≠0 then ([],(yb6 kind (b.getD 0 0) (b.drop (yce b (vget b 1).2.1 (vget b 1).1).2.1) (ybv (yce b (vget b 1).2.1 (vget b 1).1).1)).2) else
 if ycx kind (yd5 (yce b (vget b 1).2.1 (vget b 1).1).1 (yb6 kind (b.getD 0 0) (b.drop (yce b (vget b 1).2.1 (vget b 1).1).2.1) (ybv (yce b (vget b 1).2.1 (vget b 1).1).1)).1)≠0 then ([],ycx kind (yd5 (yce b (vget b 1).2.1 (vget b 1).1).1 (yb6 kind (b.getD 0 0) (b.drop (yce b (vget b 1).2.1 (vget b 1).1).2.1) (ybv (yce b (vget b 1).2.1 (vget b 1).1).1)).1)) else
 (yd5 (yce b (vget b 1).2.1 (vget b 1).1).1 (yb6 kind (b.getD 0 0) (b.drop (yce b (vget b 1).2.1 (vget b 1).1).2.1) (ybv (yce b (vget b 1).2.1 (vget b 1).1).1)).1,0)
def yft (kind:Int) (b:List Int):List Cel×Int:=
 if kind<1∨8<kind then ([],1) else if 65000<b.length then ([],4) else if ydi b=false then ([],6) else yhl kind (b.take (b.length-4))
end Go.Proofs.YteeikgjjgfdjgaaGreat.PK
end
