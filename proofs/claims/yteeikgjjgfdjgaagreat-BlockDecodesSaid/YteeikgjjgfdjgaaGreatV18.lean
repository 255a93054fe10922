/-
  Parts of the proof: AKvr, AKur, AKqd, AKqe, AKr, Bc, Bv, Br, Bp.
-/
import Derived.Test.YteeikgjjgfdjgaaGreatV17
import Derived.Test.YteeikgjjgfdjgaaGreatV14
import Derived.Test.YteeikgjjgfdjgaaGreatV13
section
namespace Go.Proofs.YteeikgjjgfdjgaaGreat.PK
open Go.RowKit YteeikgjjgfdjgaaGreatW.PrintWords YteeikgjjgfdjgaaGreatW.PrintLast YteeikgjjgfdjgaaGreatW.PrintMore
set_option linter.unusedVariables false
set_option linter.unusedSimpArgs false
theorem rget_l0 (l:List Int) (p:Nat) (hb:Bys l) (hl:l.length<1152921504606846976) (hp:p≤l.length):∀ (cs:List Int) (i u:Nat),l.drop (p+i)=cs→p+i≤l.length→i≤9→u<128^i →
  yac.l0 (2*cs.length+2) l (p:Int) (u:Int) ((128^i:Nat):Int) ((p+i:Nat):Int)=some (((vgo cs i u).1:Int),((if (vgo cs i u).2.2=0 then p+(vgo cs i u).2.1 else 0:Nat):Int),(vgo cs i u).2.2):=by
 intro cs
 induction cs with
 | nil =>
  intro i u hd hpi hi hu
  have:l.length≤p+i:=by
   have:=congrArg List.length hd
   simp at this;omega
  unfold yac.l0
  rw[if_neg (by omega)]
  rfl
 | cons c cs ih =>
  intro i u hd hpi hi hu
  obtain⟨hlt,hc,hd'⟩:=yii hd
  have hcb:=hb c (by rw[← hc];exact List.getElem_mem hlt)
  have hrec:=ih (i+1) (u+c.toNat%128*128^i) (by rw[← hd'];congr 1) (by omega)
  rw[show 2*(c::cs).length+2=(2*cs.length+2)+1+1 from by simp;omega]
  unfold yac.l0
  have e7:IntKind.u64.wrap c=c:=by rw[IntKind.wrap_u64];omega
  rw[if_pos (by omega),if_pos (by omega),ybj hlt,hc,e7,show wrap64 (((p+i:Nat):Int)-p)=i from by rw[w64 (by omega) (by omega)];omega]
  have hj:∀ q:Bool,q=decide (i=9∧1<c)→yac.j2 ((2*cs.length+2)+1) l (p:Int) (u:Int) ((128^i:Nat):Int) ((p+i:Nat):Int) c q=some (((vgo (c::cs) i u).1:Int),((if (vgo (c::cs) i u).2.2=0 then p+(vgo (c::cs) i u).2.1 else 0:Nat):Int),(vgo (c::cs) i u).2.2):=by
   rintro q rfl
   unfold yac.j2
   by_cases h9:i=9∧1<c
   ·rw[if_pos (by simp [h9])]
    simp only[vgo,if_pos h9]
    rfl
   ·rw[if_neg (by simpa using h9)]
    have h9':i=9→c≤1:=fun h=>by omega
    have hd:=ylo hi (c:=c.toNat%128) (by omega) (fun h=>by have:=h9' h;omega)
    have hu9:u+c.toNat%128*128^i<18446744073709551616:=by
     by_cases h:i=9
     ·subst h
      have:=h9' rfl
      have h2:c.toNat%128*128^9≤1*128^9:=Nat.mul_le_mul_right _ (by omega)
      omega
     ·have h1:128^i≤128^8:=Nat.pow_le_pow_right (by decide) (by omega)
      have h2:c.toNat%128*128^i≤127*128^8:=Nat.mul_le_mul (by omega) h1
      omega
    have e6:wrap64 (((p+i:Nat):Int)+1)=((p+(i+1):Nat):Int):=by rw[w64 (by omega) (by omega)];omega
    have e8:IntKind.u64.wrap ((u:Int)+IntKind.u64.wrap (Int.tmod c 128*((128^i:Nat):Int)))=((u+c.toNat%128*128^i:Nat):Int):=by
     rw[Int.tmod_eq_emod_of_nonneg hcb.1,show c%128=((c.toNat%128:Nat):Int) from by omega,← Int.natCast_mul,wraps_u64 (((c.toNat%128*128^i:Nat)):Int) (by omega) (by omega),wraps_u64 _ (by omega) (by omega)]
     omega
    rw[e8,e6]
    by_cases h1:128≤c
    ·rw[if_neg (by omega)]
     have hi8:i≤8:=by omega
     have e9:IntKind.u64.wrap (((128^i:Nat):Int)*128)=((128^(i+1):Nat):Int):=by
      have h3:128^(i+1)≤128^9:=Nat.pow_le_pow_right (by decide) (by omega)
      rw[Nat.pow_succ] at h3 ⊢
      rw[wraps_u64 _ (by omega) (by omega)]
      omega
     rw[e9,hrec (by omega) ?_]
     ·simp only[vgo,if_neg h9,if_pos h1]
     ·rw[Nat.pow_succ]
      have:c.toNat%128*128^i≤127*128^i:=Nat.mul_le_mul_right _ (by omega)
      omega
    ·have e5:c.toNat%128=c.toNat:=by omega
     rw[if_pos (by omega),e5]
     simp only[vgo,if_neg h9,if_neg h1]
     by_cases h0:c=0
     ·rw[if_pos h0]
      by_cases h2:0<i
      ·rw[if_pos (by omega),if_pos ⟨h0,h2⟩];rfl
      ·rw[if_neg (by omega),if_neg (by omega)];rfl
     ·rw[if_neg h0,if_neg (by omega)];rfl
  by_cases h9:i=9
  ·rw[if_pos (by omega)]
   exact hj _ (by simp [h9])
  ·rw[if_neg (by omega)]
   exact hj _ (by simp [h9])
theorem rget_law (l:List Int) (p:Nat) (hb:Bys l) (hl:l.length<1152921504606846976) (hp:p≤l.length):yac.f (2*(l.drop p).length+3) l (p:Int)=some (((vget l p).1:Int),((vget l p).2.1:Int),(vget l p).2.2):=by
 unfold yac.f
 rw[if_neg (by omega),show 2*(l.drop p).length+3=(2*(l.drop p).length+2)+1 from rfl,yac.j0,if_neg (by simp;omega)]
 exact rget_l0 l p hb hl hp (l.drop p) 0 0 (by rfl) (by omega) (by omega) (by decide)
theorem yfe (l:List Int) (p:Nat) (hb:Bys l) (hl:l.length<1152921504606846976) (hp:p≤l.length):Ev (fun k=>yac.f k l (p:Int)) (((vget l p).1:Int),((vget l p).2.1:Int),(vget l p).2.2):=Ev.up (fun k=>yac.mono _ _ k) (rget_law l p hb hl hp)
theorem bit_law {b:List Int} (hb:Bys b) (hl:b.length<1000000000000000) (p:Nat) (hp:p<8*b.length):Ev (fun k=>ydw.f k b (p:Int)) ((le b / 2^p%2:Nat):Int):=by
 obtain⟨q,hq⟩:∃ q,q=p / 8:=⟨_,rfl⟩
 obtain⟨r,hr⟩:∃ r,r=p%8:=⟨_,rfl⟩
 have hpq:p=8*q+r:=by omega
 have hql:q<b.length:=by omega
 have er:Int.tmod (p:Int) 8=(r:Int):=by rw[Int.tmod_eq_emod_of_nonneg (by omega)];omega
 have eq:wrap64 (Int.tdiv (p:Int) 8)=(q:Int):=by rw[Int.tdiv_eq_ediv_of_nonneg (by omega),w64 (by omega) (by omega)];omega
 have hby:=hb b[q] (List.getElem_mem hql)
 have ey:rd b (q:Int)=((b[q].toNat:Nat):Int):=by rw[ybj hql];omega
 refine Ev.same (g:=fun k=>(ybk.f k (r:Int)).bind fun t=>if t=0 then none else some (Int.tmod (IntKind.u64.wrap (Int.tdiv ((b[q].toNat:Nat):Int) t)) 2)) (fun k=>?_) (Ev.bind (power_law r (by omega)) (Ev.same (fun k=>?_) (Ev.now _)))
 ·unfold ydw.f
  rw[eq,er,if_pos (by omega),if_pos (by omega),ey,wraps_u64 _ (by omega) (by omega)]
 ·have h0:0<2^r:=Nat.pow_pos (by decide)
  have hd:b[q].toNat / 2^r≤b[q].toNat:=Nat.div_le_self _ _
  have h1:=yno hb hpq hql (t:=1) (by omega)
  rw[Nat.pow_one] at h1
  rw[← h1,if_neg (by omega),Int.tdiv_eq_ediv_of_nonneg (by omega),← Int.natCast_ediv]
  generalize b[q].toNat / 2^r=y at *
  rw[wraps_u64 _ (by omega) (by omega),Int.tmod_eq_emod_of_nonneg (by omega)]
  congr 1
theorem yqv {b:List Int} (hb:Bys b) (hl:b.length<1000000000000000) {w:Nat} (hw:w≤64) (p:Nat) (hp:p+w≤8*b.length):Ev (fun k=>ybu.f k b (p:Int) (w:Int)) ((le b / 2^p%2^w:Nat):Int):=by
 have key:∀ m:Nat,m≤w→Ev (fun k=>ybu.l0 k b (p:Int) ((le b / 2^(p+m)%2^(w-m):Nat):Int) ((m:Int)-1)) ((le b / 2^p%2^w:Nat):Int):=by
  intro m
  induction m with
  | zero =>
   intro hm
   refine Ev.step (fun k=>?_) (Ev.now _)
   rw[ybu.l0,if_neg (by omega)]
   rfl
  | succ m ih =>
   intro hm
   refine Ev.step (g:=fun k=>(ydw.f k b ((p+m:Nat):Int)).bind fun t=>ybu.l0 k b (p:Int) (IntKind.u64.wrap ((IntKind.u64.wrap (((le b / 2^(p+(m+1))%2^(w-(m+1)):Nat):Int)*2))+t)) ((m:Int)-1)) (fun k=>?_) (Ev.bind (bit_law hb hl (p+m) (by omega)) ?_)
   ·rw[ybu.l0,if_pos (by omega),show wrap64 ((p:Int)+(((m+1:Nat):Int)-1))=((p+m:Nat):Int) from by rw[w64 (by omega) (by omega)];omega,show wrap64 ((((m+1:Nat):Int)-1)-1)=(m:Int)-1 from by rw[w64 (by omega) (by omega)];omega]
   ·have hx:le b / 2^(p+(m+1))%2^(w-(m+1))<2^(w-(m+1)):=Nat.mod_lt _ (Nat.pow_pos (by decide))
    have h4:2^(w-(m+1))≤9223372036854775808:=Nat.pow_le_pow_right (n:=2) (j:=63) (by decide) (by omega)
    have e0:le b / 2^(p+m)%2^(w-m)=le b / 2^(p+m)%2+2*(le b / 2^(p+(m+1))%2^(w-(m+1))):=by
     conv=>lhs;rw[show w-m=1+(w-(m+1)) from by omega,Nat.pow_add 2 1,Nat.pow_one,Nat.mod_mul,Nat.div_div_eq_div_mul,← Nat.pow_succ]
     rfl
    have e1:IntKind.u64.wrap ((IntKind.u64.wrap (((le b / 2^(p+(m+1))%2^(w-(m+1)):Nat):Int)*2))+((le b / 2^(p+m)%2:Nat):Int))=((le b / 2^(p+m)%2^(w-m):Nat):Int):=by
     rw[e0]
     have hb2:le b / 2^(p+m)%2<2:=Nat.mod_lt _ (by decide)
     generalize le b / 2^(p+(m+1))%2^(w-(m+1))=X at *
     generalize le b / 2^(p+m)%2=Y at *
     rw[wraps_u64 ((X:Int)*2) (by omega) (by omega),wraps_u64 _ (by omega) (by omega)]
     omega
    rw[e1]
    exact ih (by omega)
 have:=key w (Nat.le_refl _)
 rw[Nat.sub_self,Nat.pow_zero,Nat.mod_one] at this
 refine Ev.same (fun k=>?_) this
 unfold ybu.f
 rw[w64 (by omega) (by omega)]
 rfl
theorem yri {b:List Int} (hb:Bys b) (hl:b.length<1000000000000000) {w m:Nat} (res) (hres:le b<2^(w*m)→Ev (fun k=>yah.l1 k b (w:Int) (m:Int) [] 0) res):∀ n p:Nat,p+n=8*b.length→(le b / 2^p=0↔le b<2^(w*m)) →
  Ev (fun k=>yah.l0 k b (w:Int) (m:Int) (p:Int)) (if le b<2^(w*m) then res else ([],5)):=by
 intro n
 induction n with
 | zero =>
  intro p h hiff
  have hlt:=le_lt hb
  rw[yhy,← h,Nat.add_zero] at hlt
  have h0:=hiff.1 (Nat.div_eq_of_lt hlt)
  rw[if_pos h0]
  refine Ev.step (fun k=>?_) (hres h0)
  rw[yah.l0,if_neg (by rw[w64 (by omega) (by omega)];omega)]
 | succ n ih =>
  intro p h hiff
  have hh:le b / 2^(p+1)=le b / 2^p / 2:=by rw[Nat.pow_succ,Nat.div_div_eq_div_mul]
  refine Ev.step (g:=fun k=>(ydw.f k b (p:Int)).bind fun t=>if t=0 then yah.l0 k b (w:Int) (m:Int) ((p+1:Nat):Int) else some (([]:List Int),5)) (fun k=>?_) (Ev.bind (bit_law hb hl p (by omega)) ?_)
  ·rw[yah.l0,if_pos (by rw[w64 (by omega) (by omega)];omega),w64s p (by omega)]
  ·have hrec:=ih (p+1) (by omega)
   rw[hh] at hrec
   generalize le b / 2^p=Y at *
   by_cases h1:Y%2=0
   ·rw[h1]
    exact hrec (by rw[← hiff];omega)
   ·rw[show Y%2=1 from by omega,if_neg (fun hc=>by have:=hiff.2 hc;omega)]
    exact Ev.now _
theorem yqx {b:List Int} (hb:Bys b) (hl:b.length<1000000000000000) {w m:Nat} (hw:w≤64) (hm:m≤4096) (hwm:w*m≤8*b.length):∀ n i:Nat,i+n=m →
  Ev (fun k=>yah.l1 k b (w:Int) (m:Int) ((List.range i).map fun j=>((le b / 2^(w*j)%2^w:Nat):Int)) (i:Int)) ((List.range m).map fun i=>((le b / 2^(w*i)%2^w:Nat):Int),0):=by
 intro n
 induction n with
 | zero =>
  intro i h
  obtain rfl:i=m:=by omega
  refine Ev.step (fun k=>?_) (Ev.now _)
  rw[yah.l1,if_neg (by omega)]
 | succ n ih =>
  intro i h
  have hi:i<m:=by omega
  have hwl:w*i+w≤w*m:=by
   have:w*(i+1)≤w*m:=Nat.mul_le_mul_left _ hi
   rwa [Nat.mul_add,Nat.mul_one] at this
  have hwi:w*i≤64*4096:=Nat.mul_le_mul hw (by omega)
  refine Ev.step (g:=fun k=>(ybu.f k b ((w*i:Nat):Int) (w:Int)).bind fun t=>yah.l1 k b (w:Int) (m:Int) (((List.range i).map fun j=>((le b / 2^(w*j)%2^w:Nat):Int))++[t]) ((i+1:Nat):Int)) (fun k=>?_) (Ev.bind (yqv hb hl hw (w*i) (by omega)) ?_)
  ·rw[yah.l1,if_pos (by omega),show wrap64 ((i:Int)*w)=((w*i:Nat):Int) from by rw[← Int.natCast_mul,Nat.mul_comm,w64 (by omega) (by omega)]]
   congr 1
   funext t
   rw[if_pos (by simp;omega),w64s i (by omega)]
  ·have:=ih (i+1) (by omega)
   rw[List.range_succ,List.map_append] at this
   exact this
theorem ymq {b:List Int} (hb:Bys b) (hl:b.length<1000000000000000) {w m:Nat} (hw:w≤64) (hm:m≤4096):Ev (fun k=>yah.f k b (w:Int) (m:Int)) (ybq b w m):=by
 have hwm:w*m≤64*4096:=Nat.mul_le_mul hw hm
 have em:wrap64 ((w:Int)*(m:Int))=((w*m:Nat):Int):=by rw[← Int.natCast_mul w m,w64 (by omega) (by omega)]
 have el:wrap64 (8*(b.length:Int))=((8*b.length:Nat):Int):=by rw[w64 (by omega) (by omega)];omega
 refine Ev.same (g:=fun k=>yah.j0 k b (w:Int) (m:Int) false) (fun k=>?_) ?_
 ·unfold yah.f
  rw[if_neg (by omega),if_neg (by omega),if_neg (by omega)]
  congr 1
  simp
  omega
 ·unfold ybq
  by_cases h2:8*b.length<w*m
  ·rw[if_pos h2]
   refine Ev.step (fun k=>?_) (Ev.now _)
   rw[yah.j0,if_neg (by simp),em,el,if_pos (by omega)]
  ·rw[if_neg h2]
   have ed:wrap64 (((8*b.length:Nat):Int)-((w*m:Nat):Int))=((8*b.length-w*m:Nat):Int):=by rw[w64 (by omega) (by omega)];omega
   by_cases h3:w*m+8≤8*b.length
   ·rw[if_pos h3]
    refine Ev.step (fun k=>?_) (Ev.now _)
    rw[yah.j0,if_neg (by simp),em,el,if_neg (by omega),ed,if_pos (by omega)]
   ·rw[if_neg h3]
    have hpos:0<2^(w*m):=Nat.pow_pos (by decide)
    have:=yri hb hl (w:=w) (m:=m) ((List.range m).map fun i=>((le b / 2^(w*i)%2^w:Nat):Int),0) (fun _=>yqx hb hl hw hm (by omega) m 0 (by omega)) (8*b.length-w*m) (w*m) (by omega)
     ⟨fun h=>by
      rcases Nat.lt_or_ge (le b) (2^(w*m)) with h1|h1
      ·exact h1
      ·have:=Nat.div_pos h1 hpos;omega,fun h=>Nat.div_eq_of_lt h⟩
    have e5:(if 2^(w*m)≤le b then (([]:List Int),(5:Int)) else ((List.range m).map fun i=>((le b / 2^(w*i)%2^w:Nat):Int),0))=(if le b<2^(w*m) then ((List.range m).map fun i=>((le b / 2^(w*i)%2^w:Nat):Int),0) else ([],5)):=by
     by_cases h5:2^(w*m)≤le b
     ·rw[if_pos h5,if_neg (by omega)]
     ·rw[if_neg h5,if_pos (by omega)]
    rw[e5]
    refine Ev.step (fun k=>?_) this
    rw[yah.j0,if_neg (by simp),em,el,if_neg (by omega),ed,if_neg (by omega)]
theorem yf1 (b:List Int) (lo hi:Nat) (hl:b.length≤140737488355328) (hlo:lo≤b.length) (hhi:lo≤hi):Ev (fun k=>yag.f k b (lo:Int) (hi:Int)) ((b.drop lo).take (hi-lo)):=by
 have h0:∀ n i:Nat,i+n=min hi b.length→lo≤i→Ev (fun k=>yag.l0 k b (hi:Int) ((b.drop lo).take (i-lo)) (i:Int)) ((b.drop lo).take (hi-lo)):=by
  intro n
  induction n with
  | zero =>
   intro i h hlo
   refine Ev.step (fun k=>?_) (Ev.now _)
   rw[yag.l0]
   by_cases h1:i<b.length
   ·rw[if_pos (by omega),if_neg (by omega),show i=hi from by omega]
   ·rw[if_neg (by omega),List.take_of_length_le (by simp;omega),List.take_of_length_le (by simp;omega)]
  | succ n ih =>
   intro i h hlo
   have hi':i<b.length:=by omega
   refine Ev.step (fun k=>?_) (ih (i+1) (by omega) (by omega))
   have e:(b.drop lo).take (i-lo)++[b[i]]=(b.drop lo).take (i+1-lo):=by
    rw[show i+1-lo=(i-lo)+1 from by omega,← ybd (b.drop lo) (i-lo) (by simp;omega)]
    congr 2
    rw[List.getElem_drop]
    congr 1
    omega
   rw[yag.l0,if_pos (by omega),if_pos (by omega),if_pos (by omega),if_pos (by simp;omega),ybj hi',w64s i (by omega),e]
 have h1:=h0 (min hi b.length-lo) lo (by omega) (Nat.le_refl _)
 rw[Nat.sub_self,List.take_zero] at h1
 refine Ev.step (fun k=>?_) h1
 unfold yag.f
 rw[Option.bind_some,if_neg (by omega),yag.j0]
theorem rtext_law {b:List Int} (hb:Bys b) (hl:b.length≤140737488355328) {p:Nat} (hp:p≤b.length):Ev (fun k=>yeb.f k b (p:Int)) ((ybw b p).1,((ybw b p).2.1:Int),(ybw b p).2.2):=by
 refine Ev.bind (yfe b p hb (by omega) hp) ?_
 unfold ybw
 by_cases h1:(vget b p).2.2=0
 ·have hle:=(ycp hb h1).1
  rw[if_pos h1]
  by_cases h2:200<(vget b p).1
  ·rw[if_pos h2]
   exact Ev.same (fun k=>by rw[if_pos h1,if_pos (by simp only;omega)];rfl) (Ev.now _)
  ·have e1:IntKind.u64.wrap (wrap64 ((b.length:Int)-((vget b p).2.1:Int)))=((b.length-(vget b p).2.1:Nat):Int):=by
    rw[w64 (by omega) (by omega),wraps_u64 _ (by omega) (by omega)];omega
   rw[if_neg h2]
   by_cases h3:b.length-(vget b p).2.1<(vget b p).1
   ·rw[if_pos h3]
    exact Ev.same (fun k=>by rw[if_pos h1,if_neg (by simp only;omega)];simp only[e1];rw[if_pos (by omega)];rfl) (Ev.now _)
   ·rw[if_neg h3]
    have e2:wrap64 (((vget b p).2.1:Int)+wrap64 ((vget b p).1:Int))=(((vget b p).2.1+(vget b p).1:Nat):Int):=by
     rw[w64 (n:=((vget b p).1:Int)) (by omega) (by omega),w64 (by omega) (by omega)];omega
    refine Ev.same (g:=fun k=>(yag.f k b ((vget b p).2.1:Int) (((vget b p).2.1+(vget b p).1:Nat):Int)).bind fun t=>some (t,(((vget b p).2.1+(vget b p).1:Nat):Int),0)) (fun k=>?_) (Ev.bind (yf1 b _ _ (by omega) hle (by omega)) ?_)
    ·rw[if_pos h1,if_neg (by simp only;omega)]
     simp only[e1,e2]
     rw[if_neg (by omega)]
    ·rw[Nat.add_sub_cancel_left]
     exact Ev.now _
 ·rw[if_neg h1]
  exact Ev.same (fun k=>by rw[if_neg h1];rfl) (Ev.now _)
theorem rtexts_l2 (out:List (List Int)) (n:Nat) (hn:n≤4096) (us:List Int):∀ m i:Nat,i+m=n→(∀ j<i,(j:Int)∈us)→Ev (fun k=>yao.l2 k out ((List.range n).map fun j:Nat=>decide ((j:Int)∈us)) (i:Int)) (if ∀ i<n,(i:Int)∈us then (out,0) else ([],5)):=by
 intro m
 induction m with
 | zero =>
  intro i h hall
  rw[if_pos (fun j hj=>hall j (by omega))]
  refine Ev.step (fun k=>?_) (Ev.now _)
  rw[yao.l2,if_neg (by simp;omega)]
 | succ m ih =>
  intro i h hall
  have hrd:rdOf false ((List.range n).map fun j:Nat=>decide ((j:Int)∈us)) (i:Int)=decide ((i:Int)∈us):=by
   unfold rdOf
   rw[Int.toNat_natCast,List.getD_eq_getElem?_getD,List.getElem?_eq_getElem (by simp;omega)]
   simp
  by_cases h1:(i:Int)∈us
  ·refine Ev.step (fun k=>?_) (ih (i+1) (by omega) (fun j hj=>?_))
   ·rw[yao.l2,if_pos (by simp;omega),if_pos (by omega),hrd,if_pos (by simpa using h1),w64s i (by omega)]
   ·rcases Nat.lt_or_eq_of_le (Nat.le_of_lt_succ hj) with h2|h2
    ·exact hall j h2
    ·rw[h2];exact h1
  ·rw[if_neg (fun hc=>h1 (hc i (by omega)))]
   refine Ev.step (fun k=>?_) (Ev.now _)
   rw[yao.l2,if_pos (by simp;omega),if_pos (by omega),hrd,if_neg (by simpa using h1)]
theorem rtexts_l1 (es:List (List Int)) (us:List Int) (hn:es.length≤4096) (hl:us.length≤4096) (hr:∀ s∈es,s.length≤200) (hu:∀ u∈us,0≤u):∀ m i:Nat,i+m=us.length→(∀ u∈us.take i,u<es.length) →
  Ev (fun k=>yao.l1 k es us ((us.take i).map fun u=>es.getD u.toNat []) ((List.range es.length).map fun j:Nat=>decide ((j:Int)∈us.take i)) (i:Int)) (yes es us):=by
 intro m
 induction m with
 | zero =>
  intro i h hall
  rw[List.take_of_length_le (by omega)] at hall ⊢
  have:=rtexts_l2 (us.map fun u=>es.getD u.toNat []) es.length hn us es.length 0 (by omega) (fun j hj=>absurd hj (by omega))
  unfold yes
  have e:(if (∀ u∈us,u<es.length)∧(∀ i<es.length,(i:Int)∈us) then (us.map fun u=>es.getD u.toNat [],(0:Int)) else ([],5))=(if ∀ i<es.length,(i:Int)∈us then (us.map fun u=>es.getD u.toNat [],0) else ([],5)):=by
   by_cases h1:∀ i<es.length,(i:Int)∈us
   ·rw[if_pos h1,if_pos ⟨hall,h1⟩]
   ·rw[if_neg h1,if_neg (fun hc=>h1 hc.2)]
  rw[e]
  refine Ev.step (fun k=>?_) this
  rw[yao.l1,if_neg (by omega)]
  rfl
 | succ m ih =>
  intro i h hall
  have hi:i<us.length:=by omega
  have h0:=hu us[i] (List.getElem_mem hi)
  have eu:IntKind.u64.wrap ((es.length:Int))=(es.length:Int):=wraps_u64 _ (by omega) (by omega)
  by_cases h1:us[i]<es.length
  ·have hlt:us[i].toNat<es.length:=by omega
   have eg2:es.getD us[i].toNat []=es[us[i].toNat]:=by
    rw[List.getD_eq_getElem?_getD,List.getElem?_eq_getElem hlt];rfl
   have eg:ydn es us[i]=es[us[i].toNat]:=eg2
   have hsl:=hr es[us[i].toNat] (List.getElem_mem hlt)
   have hrec:=ih (i+1) (by omega) (fun u hm=>by
    rw[← ybd us i hi] at hm
    rcases List.mem_append.1 hm with hm|hm
    ·exact hall u hm
    ·rw[List.mem_singleton.1 hm];exact h1)
   refine Ev.step (g:=fun k=>(yay.f k es[us[i].toNat]).bind fun t354=>yao.l1 k es us (((us.take i).map fun u=>es.getD u.toNat [])++[t354]) ((List.range es.length).map fun j:Nat=>decide ((j:Int)∈us.take (i+1))) ((i+1:Nat):Int)) (fun k=>?_) (Ev.bind (yqw es[us[i].toNat] (by omega)) ?_)
   ·rw[yao.l1,if_pos (by omega),if_pos (by omega),ybj hi,eu,if_neg (by omega),if_pos h0,if_pos (by simp;omega),if_pos h1,eg,yn6 es.length i us hi h0,w64s i (by omega)]
    congr 1
    funext t
    rw[if_pos (by simp;omega)]
   ·rw[← ybd us i hi,List.map_append] at hrec
    simp only[List.map_cons,List.map_nil,eg2] at hrec
    rw[ybd us i hi] at hrec
    exact hrec
  ·unfold yes
   rw[if_neg (fun hc=>h1 (hc.1 us[i] (List.getElem_mem hi)))]
   refine Ev.step (fun k=>?_) (Ev.now _)
   rw[yao.l1,if_pos (by omega),if_pos (by omega),ybj hi,eu,if_pos (by omega)]
theorem yq7 (es:List (List Int)) (us:List Int) (hn:es.length≤4096) (hl:us.length≤4096) (hr:∀ s∈es,s.length≤200) (hu:∀ u∈us,0≤u):Ev (fun k=>yao.f k es us) (yes es us):=by
 have h0:∀ m i:Nat,i+m=es.length→Ev (fun k=>yao.l0 k es us [] (List.replicate i false) (i:Int)) (yes es us):=by
  intro m
  induction m with
  | zero =>
   intro i h
   have:=rtexts_l1 es us hn hl hr hu us.length 0 (by omega) (fun u hm=>by simp at hm)
   refine Ev.step (fun k=>?_) this
   rw[yao.l0,if_neg (by omega)]
   congr 1
   apply List.ext_getElem
   ·simp;omega
   ·intro j h1 h2
    simp
  | succ m ih =>
   intro i h
   refine Ev.step (fun k=>?_) (ih (i+1) (by omega))
   rw[yao.l0,if_pos (by omega),if_pos (by simp;omega),w64s i (by omega),List.replicate_succ']
 exact h0 es.length 0 (by omega)
theorem rdec_tail {b:List Int} (hb:Bys b) (hl:b.length≤140737488355328) (es:List (List Int)) (hn:es.length≤4096) (hr:∀ s∈es,s.length≤200) (p:Nat) (hp:p≤b.length) :
  Ev (fun k=>(yac.f k b (p:Int)).bind fun bt380=>(if bt380.2.2=0 then (if bt380.1 > 4096 then (some (([]:List (List Int)),4)) else ((yag.f k b bt380.2.1 (b.length:Int)).bind fun t383=>((ydf.f k (es.length:Int)).bind fun t386=>((yah.f k t383 t386 (wrap64 (bt380.1))).bind fun bt387=>(if bt387.2=0 then ((yao.f k es bt387.1).bind fun bt391=>(some (bt391.1,bt391.2))) else (some (([]:List (List Int)),bt387.2))))))) else (some (([]:List (List Int)),bt380.2.2)))) (decT b es p):=by
 refine Ev.bind (yfe b p hb (by omega) hp) ?_
 unfold decT
 by_cases h1:(vget b p).2.2=0
 ·have hle:=(ycp hb h1).1
  rw[if_pos h1]
  by_cases h2:4096<(vget b p).1
  ·rw[if_pos h2]
   exact Ev.same (fun k=>by rw[if_pos h1,if_pos (by simp only;omega)]) (Ev.now _)
  ·rw[if_neg h2]
   refine Ev.same (g:=fun k=>(yag.f k b ((vget b p).2.1:Int) (b.length:Int)).bind fun t383=>((ydf.f k (es.length:Int)).bind fun t386=>((yah.f k t383 t386 ((vget b p).1:Int)).bind fun bt387=>(if bt387.2=0 then ((yao.f k es bt387.1).bind fun bt391=>(some (bt391.1,bt391.2))) else (some (([]:List (List Int)),bt387.2)))))) (fun k=>by rw[if_pos h1,if_neg (by simp only;omega),w64 (n:=((vget b p).1:Int)) (by omega) (by omega)]) ?_
   refine Ev.bind (yf1 b _ _ hl hle hle) (Ev.bind (yqz es.length (by omega)) ?_)
   rw[List.take_of_length_le (by rw[List.length_drop];exact Nat.le_refl _)]
   have hw:=yjc es.length hn
   refine Ev.bind (ymq (hb.drop _) (by rw[List.length_drop];omega) (by omega) (by omega)) ?_
   by_cases h3:(ybq (b.drop (vget b p).2.1) (wid es.length) (vget b p).1).2=0
   ·rw[if_pos h3]
    refine Ev.same (g:=fun k=>(yao.f k es (ybq (b.drop (vget b p).2.1) (wid es.length) (vget b p).1).1).bind fun bt391=>(some (bt391.1,bt391.2))) (fun k=>by rw[if_pos h3]) ?_
    have hlen:=yhv (b:=b.drop (vget b p).2.1) (w:=wid es.length) (m:=(vget b p).1)
    exact Ev.bind (yq7 es _ hn (by omega) hr yk0) (Ev.now _)
   ·rw[if_neg h3]
    exact Ev.same (fun k=>by rw[if_neg h3]) (Ev.now _)
 ·rw[if_neg h1]
  exact Ev.same (fun k=>by rw[if_neg h1]) (Ev.now _)
theorem rdec_l0 {b:List Int} (hb:Bys b) (hl:b.length≤140737488355328) (n:Nat) (hn:n≤4096):∀ (m p:Nat) (es:List (List Int)),es.length+m=n→p≤b.length→(∀ s∈es,s.length≤200) →
  Ev (fun k=>ybe.l0 k b (n:Int) (p:Int) es (es.length:Int)) (if (entS b m p es).2.2=0 then decT b (entS b m p es).1 (entS b m p es).2.1 else ([],(entS b m p es).2.2)):=by
 intro m
 induction m with
 | zero =>
  intro p es h hp hr
  simp only[entS]
  rw[if_pos trivial]
  refine Ev.step (fun k=>?_) (rdec_tail hb hl es (by omega) hr p hp)
  rw[ybe.l0,if_neg (by omega)]
 | succ m ih =>
  intro p es h hp hr
  have e1:IntKind.u64.wrap ((es.length:Int)+1)=((es.length+1:Nat):Int):=by rw[wraps_u64 _ (by omega) (by omega)];rfl
  refine Ev.step (g:=fun k=>(yeb.f k b (p:Int)).bind fun bt367=>(if bt367.2.2=0 then (if (es.length:Int) > 0 then (if 0≤(IntKind.u64.wrap ((es.length:Int)-1)) then (if (IntKind.u64.wrap ((es.length:Int)-1))<(es.length:Int) then ((yan.f k bt367.1 (ydn es (IntKind.u64.wrap ((es.length:Int)-1)))).bind fun t373=>(if t373≤0 then (some (([]:List (List Int)),5)) else (if es.length<5864062014805 then (ybe.l0 k b (n:Int) bt367.2.1 (es++[bt367.1]) (IntKind.u64.wrap ((es.length:Int)+1))) else (none)))) else (none)) else (none)) else (if es.length<5864062014805 then (ybe.l0 k b (n:Int) bt367.2.1 (es++[bt367.1]) (IntKind.u64.wrap ((es.length:Int)+1))) else (none))) else (some (([]:List (List Int)),bt367.2.2)))) (fun k=>by rw[ybe.l0,if_pos (by omega)]) (Ev.bind (rtext_law hb hl hp) ?_)
  by_cases h1:(ybw b p).2.2=0
  ·obtain⟨k1,k2,k3,k4⟩:=ylg hb h1
   have hrec:=ih (ybw b p).2.1 (es++[(ybw b p).1]) (by simp;omega) k1 (fun s hm=>by
    rcases List.mem_append.1 hm with hm|hm
    ·exact hr s hm
    ·rw[List.mem_singleton.1 hm];exact k2)
   rw[List.length_append,List.length_singleton] at hrec
   by_cases h2:0<es.length
   ·have e2:IntKind.u64.wrap ((es.length:Int)-1)=((es.length-1:Nat):Int):=by rw[wraps_u64 _ (by omega) (by omega)];omega
    have e3:es.getD (es.length-1) []=es[es.length-1]:=by rw[List.getD_eq_getElem?_getD,List.getElem?_eq_getElem (by omega)];rfl
    refine Ev.same (g:=fun k=>(yan.f k (ybw b p).1 es[es.length-1]).bind fun t373=>(if t373≤0 then (some (([]:List (List Int)),5)) else (ybe.l0 k b (n:Int) ((ybw b p).2.1:Int) (es++[(ybw b p).1]) ((es.length+1:Nat):Int)))) (fun k=>?_) (Ev.bind (order_ev (ybw b p).1 es[es.length-1] (by omega)) ?_)
    ·rw[if_pos h1,if_pos (by omega),e2,if_pos (by omega),if_pos (by omega),ygi (by omega),e1]
     congr 1
     funext t
     rw[if_pos (show es.length<5864062014805 by omega)]
    ·by_cases h3:cmpL (ybw b p).1 es[es.length-1]≤0
     ·have ee:entS b (m+1) p es=([],0,5):=by rw[entS,if_pos h1,e3,if_pos ⟨h2,h3⟩]
      rw[ee,if_neg (by simp)]
      exact Ev.same (fun k=>by rw[if_pos h3]) (Ev.now _)
     ·have ee:entS b (m+1) p es=entS b m (ybw b p).2.1 (es++[(ybw b p).1]):=by rw[entS,if_pos h1,e3,if_neg (fun hc=>h3 hc.2)]
      rw[ee]
      exact Ev.same (fun k=>by rw[if_neg h3]) hrec
   ·have ee:entS b (m+1) p es=entS b m (ybw b p).2.1 (es++[(ybw b p).1]):=by rw[entS,if_pos h1,if_neg (fun hc=>h2 hc.1)]
    rw[ee]
    refine Ev.same (fun k=>?_) hrec
    rw[if_pos h1,if_neg (by omega),if_pos (by omega),e1]
  ·have ee:entS b (m+1) p es=([],0,(ybw b p).2.2):=by rw[entS,if_neg h1]
   rw[ee,if_neg h1]
   exact Ev.same (fun k=>by rw[if_neg h1]) (Ev.now _)
theorem rdec_law {b:List Int} (hb:Bys b) (hl:b.length≤140737488355328):Ev (fun k=>ybe.f k b) (decS b):=by
 refine Ev.bind (yfe b 0 hb (by omega) (by omega)) ?_
 unfold decS
 by_cases h1:(vget b 0).2.2=0
 ·have hle:=(ycp hb h1).1
  rw[if_pos h1]
  by_cases h2:4096<(vget b 0).1
  ·rw[if_pos h2]
   exact Ev.same (fun k=>by rw[if_pos h1,if_pos (by simp only;omega)]) (Ev.now _)
  ·rw[if_neg h2]
   have:=rdec_l0 hb hl (vget b 0).1 (by omega) (vget b 0).1 (vget b 0).2.1 [] (by simp) hle (fun s hm=>by simp at hm)
   exact Ev.same (fun k=>by rw[if_pos h1,if_neg (by simp only;omega)];rfl) this
 ·rw[if_neg h1]
  exact Ev.same (fun k=>by rw[if_neg h1]) (Ev.now _)
theorem yd9 {b X Y:List Int} {p:Nat} (h:b.drop p=X++Y):b.drop (p+X.length)=Y:=by
 rw[← List.drop_drop,h,List.drop_left]
theorem yon {es:List (List Int)} (h:0<es.length):es.getD (es.length-1) []=es[es.length-1]:=by
 rw[List.getD_eq_getElem?_getD,List.getElem?_eq_getElem (by omega)]
 rfl
theorem ypx {es:List (List Int)} {s:List Int} (hs:yd1 es) (h:0<es.length→cmpL (es.getD (es.length-1) []) s<0):yd1 (es++[s]):=by
 refine List.pairwise_append.2 ⟨hs,by simp,fun a ha b hb=>?_⟩
 rw[List.mem_singleton.1 hb]
 obtain⟨i,hi,rfl⟩:=List.getElem_of_mem ha
 have h0:0<es.length:=by omega
 have h1:=h h0
 rw[yon h0] at h1
 rcases Nat.lt_or_ge i (es.length-1) with h2|h2
 ·exact yfo (hs.get h2 (by omega)) h1
 ·have:i=es.length-1:=by omega
  subst this
  exact h1
theorem textS_fwd {b s Y:List Int} {p:Nat} (hs:s.length≤200) (h:b.drop p=one s++Y):ybw b p=(s,p+(one s).length,0):=by
 have h':b.drop p=vput s.length++(s++Y):=by rw[h,one,List.append_assoc]
 have hv:=ykg (by omega) h'
 have hd:=yd9 h'
 have hl:=congrArg List.length hd
 rw[List.length_drop,List.length_append] at hl
 unfold ybw
 rw[hv]
 simp only
 rw[if_pos trivial,if_neg (by omega),if_neg (by omega),hd,List.take_left,one,List.length_append]
 congr 2
 omega
theorem entS_fwd {b:List Int}:∀ (es1 es0:List (List Int)) (p:Nat) (Y:List Int),yd1 (es0++es1)→(∀ s∈es1,s.length≤200)→b.drop p=(es1.map one).flatten++Y→entS b es1.length p es0=(es0++es1,p+(es1.map one).flatten.length,0):=by
 intro es1
 induction es1 with
 | nil=>intro es0 p Y hr hl h;simp [entS]
 | cons s es1 ih =>
  intro es0 p Y hr hl h
  rw[List.map_cons,List.flatten_cons,List.append_assoc] at h
  have ht:=textS_fwd (hl s (by simp)) h
  have hd:=yd9 h
  have hr':yd1 ((es0++[s])++es1):=by rw[List.append_assoc];exact hr
  have hrec:=ih (es0++[s]) (p+(one s).length) Y hr' (fun x hx=>hl x (by simp [hx])) hd
  rw[List.length_cons,entS,ht]
  simp only
  rw[if_pos trivial,if_neg ?_,hrec]
  ·rw[List.append_assoc,List.map_cons,List.flatten_cons,List.length_append,Nat.add_assoc]
   rfl
  ·rintro⟨h0,h1⟩
   rw[yon h0] at h1
   have:=(List.pairwise_append.1 hr).2.2 es0[es0.length-1] (List.getElem_mem _) s (by simp)
   rw[yj7] at this
   omega
theorem textS_bwd {b:List Int} (hb:Bys b) {p:Nat} (h:(ybw b p).2.2=0):b.drop p=one (ybw b p).1++b.drop (ybw b p).2.1:=by
 unfold ybw at h ⊢
 by_cases h1:(vget b p).2.2=0
 ·rw[if_pos h1] at h ⊢
  by_cases h2:200<(vget b p).1
  ·rw[if_pos h2] at h;simp at h
  ·rw[if_neg h2] at h ⊢
   by_cases h3:b.length-(vget b p).2.1<(vget b p).1
   ·rw[if_pos h3] at h;simp at h
   ·rw[if_neg h3]
    have hu:=yef (l:=b) (p:=p) (v:=(vget b p).1) (q:=(vget b p).2.1) hb (by rw[← h1])
    have hl:((b.drop (vget b p).2.1).take (vget b p).1).length=(vget b p).1:=by rw[List.length_take,List.length_drop];omega
    simp only[one]
    rw[hl,hu.2.2,List.append_assoc,← List.drop_drop,List.take_append_drop]
 ·rw[if_neg h1] at h;exact absurd h h1
theorem entS_bwd {b:List Int} (hb:Bys b):∀ (n p:Nat) (es0:List (List Int)),yd1 es0→p≤b.length→(entS b n p es0).2.2=0 →
  ∃ es1,(entS b n p es0).1=es0++es1∧es1.length=n∧yd1 (es0++es1)∧(∀ s∈es1,s.length≤200)∧(entS b n p es0).2.1≤b.length∧b.drop p=(es1.map one).flatten++b.drop (entS b n p es0).2.1:=by
 intro n
 induction n with
 | zero =>
  intro p es0 hr hp h
  refine⟨[],by simp [entS],rfl,by simpa using hr,fun s hs=>by simp at hs,hp,by simp [entS]⟩
 | succ n ih =>
  intro p es0 hr hp h
  by_cases h1:(ybw b p).2.2=0
  ·obtain⟨k1,k2,k3,k4⟩:=ylg hb h1
   have hd:=textS_bwd hb h1
   by_cases h2:0<es0.length∧cmpL (ybw b p).1 (es0.getD (es0.length-1) [])≤0
   ·rw[entS,if_pos h1,if_pos h2] at h
    simp at h
   ·have ee:entS b (n+1) p es0=entS b n (ybw b p).2.1 (es0++[(ybw b p).1]):=by rw[entS,if_pos h1,if_neg h2]
    rw[ee] at h ⊢
    have hr1:yd1 (es0++[(ybw b p).1]):=ypx hr (fun h0=>by
     have h3:¬ cmpL (ybw b p).1 (es0.getD (es0.length-1) [])≤0:=fun h=>h2 ⟨h0,h⟩
     rw[yj7]
     omega)
    obtain⟨es1,e1,e2,e3,e4,e5,e6⟩:=ih _ _ hr1 k1 h
    refine⟨(ybw b p).1::es1,by rw[e1,List.append_assoc];rfl,by simp [e2],by rw[List.append_assoc] at e3;exact e3,fun s hs=>?_,e5,?_⟩
    ·rcases List.mem_cons.1 hs with rfl|hs
     ·exact k2
     ·exact e4 s hs
    ·rw[hd,e6,List.map_cons,List.flatten_cons,List.append_assoc]
  ·rw[entS,if_neg h1] at h
   exact absurd h h1
theorem ypr (ss:List (List Int)):yes (ents ss) (ss.map (fun s=>((pos (ents ss) s:Nat):Int)))=(ss,0):=by
 have hr:=ye3 ss
 unfold yes
 rw[if_pos]
 ·congr 1
  rw[List.map_map]
  conv=>rhs;rw[← List.map_id ss]
  refine List.map_congr_left fun s hs=>?_
  obtain⟨h1,h2⟩:=yj9 hr (yd0.2 hs)
  simp only[Function.comp,Int.toNat_natCast,id]
  rw[List.getD_eq_getElem?_getD,List.getElem?_eq_getElem h1]
  exact h2
 ·refine⟨fun u hu=>?_,fun i hi=>?_⟩
  ·obtain⟨s,hs,rfl⟩:=List.mem_map.1 hu
   obtain⟨h1,h2⟩:=yj9 hr (yd0.2 hs)
   omega
  ·have:=yi2 hr hi
   refine List.mem_map.2 ⟨(ents ss)[i],yd0.1 (List.getElem_mem hi),?_⟩
   rw[this]
theorem dec_enc {ss:List (List Int)} (h:(idx ss).2.2=0):decS (encS ss).1=(ss,0):=by
 obtain⟨h1,h2,h3,h4⟩:=ymg h
 have hel:=yg5 ss
 obtain⟨us,hus⟩:∃ us,us=ss.map (fun s=>((pos (ents ss) s:Nat):Int)):=⟨_,rfl⟩
 have hul:us.length=ss.length:=by rw[hus,List.length_map]
 have hfit:=yng h1
 rw[← hus] at hfit
 have henc:(encS ss).1=encB (ents ss) us:=by
  unfold encS
  rw[if_pos h,h3,h4,← hus]
 rw[henc]
 have htx:=ypr ss
 rw[← hus] at htx
 obtain⟨es,hes⟩:∃ es,es=ents ss:=⟨_,rfl⟩
 rw[← hes] at htx hel hfit ⊢
 have hr:yd1 es:=by rw[hes];exact ye3 ss
 have hlen:∀ s∈es,s.length≤200:=fun s hs=>h2 s (yd0.1 (by rw[← hes];exact hs))
 obtain⟨b,hb⟩:∃ b,b=encB es us:=⟨_,rfl⟩
 rw[← hb]
 have hb0:b.drop 0=vput es.length++((es.map one).flatten++(vput us.length++yed (wid es.length) us)):=by
  rw[hb,List.drop_zero,encB]
  simp only[List.append_assoc]
 have v0:=ykg (by omega) hb0
 have hb1:=yd9 hb0
 rw[Nat.zero_add] at hb1 v0
 have he:=entS_fwd es [] _ _ (by simpa using hr) hlen hb1
 rw[List.nil_append] at he
 have hb2:=yd9 hb1
 have v2:=ykg (by omega) hb2
 have hb3:=yd9 hb2
 have hup:=yi3 hfit
 unfold decS
 rw[v0]
 simp only
 rw[if_pos trivial,if_neg (by omega),he]
 simp only
 rw[if_pos trivial]
 unfold decT
 rw[v2]
 simp only
 rw[if_pos trivial,if_neg (by omega),hb3,hup]
 simp only
 rw[if_pos trivial]
 exact htx
theorem dec_err {b:List Int} (h:(decS b).2≠0):(decS b).1=[]:=by
 unfold decS at h ⊢
 split at h
 ·rename_i h1
  rw[if_pos h1]
  split at h
  ·rename_i h2;rw[if_pos h2]
  ·rename_i h2
   rw[if_neg h2]
   split at h
   ·rename_i h3
    rw[if_pos h3]
    unfold decT at h ⊢
    split at h
    ·rename_i h4
     rw[if_pos h4]
     split at h
     ·rename_i h5;rw[if_pos h5]
     ·rename_i h5
      rw[if_neg h5]
      split at h
      ·rename_i h6
       rw[if_pos h6]
       unfold yes at h ⊢
       split at h
       ·simp at h
       ·rename_i h7;rw[if_neg h7]
      ·rename_i h6;rw[if_neg h6]
    ·rename_i h4;rw[if_neg h4]
   ·rename_i h3;rw[if_neg h3]
 ·rename_i h1;rw[if_neg h1]
theorem enc_dec {b:List Int} (hb:Bys b) (h:(decS b).2=0):encS (decS b).1=(b,0):=by
 obtain⟨ss,hss⟩:∃ ss,ss=(decS b).1:=⟨_,rfl⟩
 have hd:decS b=(ss,0):=by rw[hss,← h]
 rw[← hss]
 clear h hss
 unfold decS at hd
 split at hd
 ·rename_i h1
  split at hd
  ·simp at hd
  ·rename_i h2
   split at hd
   ·rename_i h3
    have hle:=ycp hb h1
    obtain⟨es,e1,e2,e3,e4,e5,e6⟩:=entS_bwd hb _ _ [] (List.Pairwise.nil) hle.1 h3
    rw[List.nil_append] at e1 e3
    rw[e1] at hd
    have hu0:=yef (l:=b) (p:=0) (v:=(vget b 0).1) (q:=(vget b 0).2.1) hb (by rw[← h1])
    obtain⟨p,hp⟩:∃ p,p=(entS b (vget b 0).1 (vget b 0).2.1 []).2.1:=⟨_,rfl⟩
    rw[← hp] at hd e5 e6
    unfold decT at hd
    split at hd
    ·rename_i h4
     split at hd
     ·simp at hd
     ·rename_i h5
      split at hd
      ·rename_i h6
       have hu1:=yef (l:=b) (p:=p) (v:=(vget b p).1) (q:=(vget b p).2.1) hb (by rw[← h4])
       obtain⟨us,hus⟩:∃ us,us=(ybq (b.drop (vget b p).2.1) (wid es.length) (vget b p).1).1:=⟨_,rfl⟩
       have hun:ybq (b.drop (vget b p).2.1) (wid es.length) (vget b p).1=(us,0):=by rw[hus,← h6]
       rw[← hus] at hd
       obtain⟨p1,p2,p3⟩:=ygp (hb.drop _) hun
       unfold yes at hd
       split at hd
       ·rename_i h7
        obtain⟨ha,hc⟩:=h7
        simp only[Prod.mk.injEq] at hd
        obtain⟨hss,_⟩:=hd
        have hu00:∀ u∈us,0≤u:=fun u hu=>(p2 u hu).1
        have hget:∀ u∈us,∃ hi:u.toNat<es.length,es.getD u.toNat []=es[u.toNat]:=fun u hu=>by
         have h8:=ha u hu
         have h9:=hu00 u hu
         refine⟨by omega,?_⟩
         rw[List.getD_eq_getElem?_getD,List.getElem?_eq_getElem (by omega)]
         rfl
        have hents:ents ss=es:=yn0 (ye3 ss) e3 (fun x=>by
         rw[yd0,← hss,List.mem_map]
         constructor
         ·rintro⟨u,hu,rfl⟩
          obtain⟨hi,e⟩:=hget u hu
          rw[e]
          exact List.getElem_mem hi
         ·intro hx
          obtain⟨i,hi,rfl⟩:=List.getElem_of_mem hx
          refine⟨(i:Int),hc i hi,?_⟩
          rw[Int.toNat_natCast,List.getD_eq_getElem?_getD,List.getElem?_eq_getElem hi]
          rfl)
        have hcodes:ss.map (fun s=>((pos (ents ss) s:Nat):Int))=us:=by
         rw[hents,← hss,List.map_map]
         conv=>rhs;rw[← List.map_id us]
         refine List.map_congr_left fun u hu=>?_
         obtain⟨hi,e⟩:=hget u hu
         have:=hu00 u hu
         simp only[Function.comp,id]
         rw[e,yi2 e3 hi]
         omega
        have hok:idx ss=(ents ss,ss.map (fun s=>((pos (ents ss) s:Nat):Int)),0):=by
         unfold idx
         rw[if_neg]
         rintro(h8|⟨s,hs,h8⟩)
         ·rw[← hss,List.length_map,p1] at h8
          omega
         ·have:=e4 s (by rw[← hents];exact yd0.2 hs)
          omega
        unfold encS
        rw[hok]
        simp only
        rw[if_pos trivial,hcodes,hents]
        congr 1
        unfold encB
        rw[p3,p1,e2,List.append_assoc,List.append_assoc,← hu1.2.2,← e6,← hu0.2.2,List.drop_zero]
       ·simp at hd
      ·rename_i h6
       simp only[Prod.mk.injEq] at hd
       exact absurd hd.2 h6
    ·rename_i h4
     simp only[Prod.mk.injEq] at hd
     exact absurd hd.2 h4
   ·rename_i h3
    simp only[Prod.mk.injEq] at hd
    exact absurd hd.2 h3
 ·rename_i h1
  simp only[Prod.mk.injEq] at hd
  exact absurd hd.2 h1
end Go.Proofs.YteeikgjjgfdjgaaGreat.PK
end
section
namespace Go.Proofs.YteeikgjjgfdjgaaGreat.PK
open Go.RowKit
set_option linter.unusedVariables false
set_option linter.unusedSimpArgs false
def stp (s:BitVec 32):BitVec 32:=(s >>> 1) ^^^ (if s.getLsbD 0 then 0x82F63B78#32 else 0#32)
def stpN:Nat→BitVec 32→BitVec 32
 | 0,s=>s
 | n+1,s=>stpN n (stp s)
def feedC (s:BitVec 32) (c:Int):BitVec 32:=stpN 8 (s ^^^ BitVec.ofNat 32 c.toNat)
def crcL (s:BitVec 32) (b:List Int):BitVec 32:=b.foldl feedC s
def ones:BitVec 32:=4294967295#32
def sumS (b:List Int):Nat:=(crcL ones b ^^^ ones).toNat
def ye8 (b:List Int):List Int:=b++yd8 4 (sumS b)
def yc9 (b:List Int):Bool:=decide (4≤b.length∧b.drop (b.length-4)=yd8 4 (sumS (b.take (b.length-4))))
theorem ykz (b:List Int):sumS b<4294967296:=(crcL ones b ^^^ ones).isLt
theorem yp4 {b:List Int}:yc9 (ye8 b)=true:=by
 unfold yc9 ye8
 have hl:(yd8 4 (sumS b)).length=4:=yg9 _ _
 simp [hl]
theorem ypa {b:List Int} (h:yc9 b=true):4≤b.length∧b=ye8 (b.take (b.length-4)):=by
 unfold yc9 at h
 obtain⟨h1,h2⟩:=of_decide_eq_true h
 refine⟨h1,?_⟩
 unfold ye8
 rw[← h2,List.take_append_drop]
theorem ykh (b:List Int):(ye8 b).length=b.length+4:=by unfold ye8;rw[List.length_append,yg9]
theorem vgo_vputA:∀ (f i n u:Nat) (rest:List Int),i+f=9→n*128^i<18446744073709551616→(0<i→0<n)→vgo (yew f n++rest) i u=(u+n*128^i,i+(yew f n).length,0):=by
 intro f
 induction f with
 | zero =>
  intro i n u rest hi hn h0
  obtain rfl:i=9:=by omega
  have h1:n≤1:=by
   have:(128:Nat)^9=9223372036854775808:=by decide
   omega
  have h2:=h0 (by omega)
  simp only[yew,List.singleton_append,vgo]
  rw[if_neg (by omega),if_neg (by omega),if_neg (by omega)]
  simp
 | succ f ih =>
  intro i n u rest hi hn h0
  simp only[yew]
  split
  ·rename_i h1
   simp only[List.singleton_append,vgo]
   rw[if_neg (by omega),if_neg (by omega),if_neg (by omega)]
   simp
  ·rename_i h1
   rw[List.cons_append,vgo,if_neg (by omega),if_pos (by omega)]
   have e:n=n%128+128*(n / 128):=by omega
   have e2:n*128^i=n%128*128^i+n / 128*128^(i+1):=by
    rw[Nat.pow_succ]
    conv=>lhs;rw[e]
    rw[Nat.add_mul,Nat.mul_comm 128 (n / 128),Nat.mul_assoc,Nat.mul_comm 128 (128^i)]
   rw[ih (i+1) (n / 128) _ rest (by omega) (by omega) (fun _=>by omega)]
   rw[Prod.mk.injEq,Prod.mk.injEq]
   refine⟨?_,by simp;omega,rfl⟩
   rw[e2,show(((n%128+128:Nat):Int)).toNat%128=n%128 by omega]
   omega
theorem yfk {l rest:List Int} {p n:Nat} (h:n<18446744073709551616) (hl:l.drop p=vput n++rest):vget l p=(n,p+(vput n).length,0):=by
 unfold vget
 rw[hl]
 have:=vgo_vputA 9 0 n 0 rest rfl (by simpa using h) (fun h=>by omega)
 rw[show vput n=yew 9 n from rfl,this]
 simp
theorem vput_pos (n:Nat):0<(vput n).length:=by
 unfold vput
 rw[show(9:Nat)=8+1 from rfl,yew]
 split <;> simp
theorem vgo_lt:∀ (cs:List Int) (i u:Nat),Bys cs→i≤9→u<128^i→(vgo cs i u).2.2=0→(vgo cs i u).1<18446744073709551616:=by
 intro cs
 induction cs with
 | nil=>intro i u _ _ _ h;simp [vgo] at h
 | cons c cs ih =>
  intro i u hb hi hu h
  obtain⟨hc,hb'⟩:=hb.cons
  simp only[vgo] at h ⊢
  split at h
  ·simp at h
  ·rename_i h9
   rw[if_neg h9]
   split at h
   ·rename_i h1
    rw[if_pos h1]
    refine ih (i+1) _ hb' (by omega) ?_ h
    have:c.toNat%128<128:=Nat.mod_lt _ (by decide)
    rw[Nat.pow_succ]
    have:=Nat.mul_le_mul_right (128^i) (show c.toNat%128≤127 by omega)
    omega
   ·rename_i h1
    rw[if_neg h1]
    split at h
    ·simp at h
    ·rename_i h0
     rw[if_neg h0]
     simp only
     have hd:=ylo (i:=i) (c:=c.toNat) hi (by omega) (fun e=>by omega)
     by_cases e:i=9
     ·subst e
      have:(128:Nat)^9=9223372036854775808:=by decide
      have:c.toNat≤1:=by omega
      have:=Nat.mul_le_mul_right (128^9) this
      omega
     ·have h1:128^(i+1)≤128^9:=Nat.pow_le_pow_right (by decide) (by omega)
      have h2:=Nat.mul_le_mul_right (128^i) (show c.toNat≤127 by omega)
      have h3:(128:Nat)^9=9223372036854775808:=by decide
      rw[Nat.pow_succ] at h1
      omega
theorem ydz {l:List Int} {p:Nat} (hb:Bys l) (h:(vget l p).2.2=0):(vget l p).1<18446744073709551616:=vgo_lt _ 0 0 (hb.drop p) (by omega) (by decide) h
def ydh (v:Int):Nat:=if 0≤v then 2*v.toNat else 2*(-(v+1)).toNat+1
def ycy (u:Nat):Int:=if u%2=0 then ((u / 2:Nat):Int) else -((u / 2:Nat):Int)-1
def I64 (v:Int):Prop:=-9223372036854775808≤v∧v≤9223372036854775807
theorem yi7 (v:Int):ycy (ydh v)=v:=by
 unfold ydh ycy
 split <;> split <;> omega
theorem yi5 (u:Nat):ydh (ycy u)=u:=by
 unfold ydh ycy
 split <;> split <;> omega
theorem ygc {v:Int} (h:I64 v):ydh v<18446744073709551616:=by
 unfold ydh
 obtain⟨h1,h2⟩:=h
 split <;> omega
theorem ygv {u:Nat} (h:u<18446744073709551616):I64 (ycy u):=by
 unfold ycy I64
 split <;> omega
def rle:List Int→List (Int×Nat)
 | []=>[]
 | v::vs=>match rle vs with
  | []=>[(v,1)]
  | (u,n)::r=>if u=v then (u,n+1)::r else (v,1)::(u,n)::r
def yfb (rs:List (Int×Nat)):List Int:=(rs.map fun r=>List.replicate r.2 r.1).flatten
def ygu:List (Int×Nat)→Prop
 | []=>True
 | [(_,n)]=>0<n
 | (v,n)::(u,m)::r=>0<n∧u≠v∧ygu ((u,m)::r)
theorem ym1 (vs:List Int):yfb (rle vs)=vs:=by
 induction vs with
 | nil=>rfl
 | cons v vs ih =>
  simp only[rle]
  split
  ·rename_i h
   rw[h] at ih
   rw[← ih];rfl
  ·rename_i u n r h
   rw[h] at ih
   split
   ·rename_i e
    subst e
    rw[← ih]
    simp [yfb,List.replicate_succ]
   ·rw[← ih]
    simp [yfb]
theorem rle_ok (vs:List Int):ygu (rle vs):=by
 induction vs with
 | nil=>trivial
 | cons v vs ih =>
  simp only[rle]
  split
  ·show 0<1;decide
  ·rename_i u n r h
   rw[h] at ih
   split
   ·cases r with
    | nil=>show 0<n+1;omega
    | cons a r=>obtain⟨_,h2,h3⟩:=ih;exact⟨by omega,h2,h3⟩
   ·rename_i e
    exact⟨by decide,e,ih⟩
theorem yjv {v:Int}:∀ {n:Nat} {vs:List Int},0<n→(∀ u m r,rle vs=(u,m)::r→u≠v)→rle (List.replicate n v++vs)=(v,n)::rle vs:=by
 intro n
 induction n with
 | zero=>intro vs h;omega
 | succ n ih =>
  intro vs _ hv
  rw[List.replicate_succ,List.cons_append]
  simp only[rle]
  cases n with
  | zero =>
   simp only[List.replicate_zero,List.nil_append]
   split
   ·rename_i h;rw[h]
   ·rename_i u m r h
    rw[if_neg (hv u m r h),h]
  | succ n =>
   rw[ih (by omega) hv]
   simp
theorem ynm:∀ {rs:List (Int×Nat)},ygu rs→rle (yfb rs)=rs
 | [],_=>rfl
 | [(v,n)],h=>by
  have:=yjv (v:=v) (vs:=[]) h (fun u m r e=>by simp [rle] at e)
  simpa [yfb,rle] using this
 | (v,n)::(u,m)::r,h=>by
  obtain⟨h1,h2,h3⟩:=h
  have ih:=ynm h3
  have e:yfb ((v,n)::(u,m)::r)=List.replicate n v++yfb ((u,m)::r):=by simp [yfb]
  rw[e,yjv h1 (fun a b c e=>by rw[ih] at e;injection e with e;injection e with e;subst e;exact h2),ih]
theorem yh9 (vs:List Int):(rle vs).length≤vs.length:=by
 induction vs with
 | nil=>simp [rle]
 | cons v vs ih =>
  simp only[rle]
  split
  ·simp
  ·rename_i u n r h
   rw[h] at ih
   split <;> simp at ih ⊢ <;> omega
theorem yks {vs:List Int} {r:Int×Nat} (h:r∈rle vs):r.1∈vs∧0<r.2∧r.2≤vs.length:=by
 induction vs generalizing r with
 | nil=>simp [rle] at h
 | cons v vs ih =>
  simp only[rle] at h
  split at h
  ·simp at h;subst h;simp
  ·rename_i u n rr hh
   split at h
   ·rename_i e
    subst e
    rcases List.mem_cons.1 h with rfl|h
    ·have:=ih (r:=(u,n)) (by rw[hh];simp)
     simp at this ⊢
     omega
    ·have:=ih (r:=r) (by rw[hh];simp [h])
     exact⟨List.mem_cons_of_mem _ this.1,this.2.1,by simp;omega⟩
   ·rcases List.mem_cons.1 h with rfl|h
    ·simp
    ·have:=ih (r:=r) (by rw[hh];exact h)
     exact⟨List.mem_cons_of_mem _ this.1,this.2.1,by simp;omega⟩
def push (rs:List (Int×Nat)) (v:Int):List (Int×Nat):=match rs.getLast? with
 | some (u,n)=>if u=v then rs.dropLast++[(u,n+1)] else rs++[(v,1)]
 | none=>[(v,1)]
theorem yir (a:Int×Nat) {r:List (Int×Nat)} (h:r≠[]) (v:Int):push (a::r) v=a::push r v:=by
 unfold push
 obtain⟨r',b,rfl⟩:=List.eq_nil_or_concat r |>.resolve_left h
 rw[List.concat_eq_append,show(a::(r'++[b]))=(a::r')++[b] from rfl,List.getLast?_concat,List.getLast?_concat,List.dropLast_concat,List.dropLast_concat]
 obtain⟨u,n⟩:=b
 simp only
 split <;> simp
theorem rle_ne {v:Int} {vs:List Int}:rle (v::vs)≠[]:=by
 simp only[rle]
 split
 ·simp
 ·split <;> simp
theorem yow (vs:List Int) (v:Int):rle (vs++[v])=push (rle vs) v:=by
 induction vs with
 | nil=>rfl
 | cons x vs ih =>
  rw[List.cons_append]
  cases vs with
  | nil =>
   simp only[List.nil_append,rle,push]
   by_cases e:v=x
   ·subst e;simp
   ·simp [e,Ne.symm e]
  | cons y vs =>
   have hne:rle (y::vs)≠[]:=rle_ne
   rw[show rle (x::((y::vs)++[v]))=(match rle ((y::vs)++[v]) with|[]=>[(x,1)]|(u,n)::r=>if u=x then (u,n+1)::r else (x,1)::(u,n)::r) from rfl,ih]
   rw[show rle (x::y::vs)=(match rle (y::vs) with|[]=>[(x,1)]|(u,n)::r=>if u=x then (u,n+1)::r else (x,1)::(u,n)::r) from rfl]
   generalize rle (y::vs)=R at hne
   match R,hne with
   | (u,n)::r,_ =>
    simp only
    by_cases hr:r=[]
    ·subst hr
     unfold push
     simp only[List.getLast?_singleton]
     by_cases e1:u=v <;> by_cases e2:u=x <;> simp [e1,e2,push]
     all_goals (first|(subst e1;simp [e2])|skip)
     all_goals (simp_all)
    ·rw[yir _ hr]
     simp only
     split
     ·rw[yir _ hr]
     ·rw[yir _ (by simp),yir _ hr]
def runB (r:Int×Nat):List Int:=vput (ydh r.1)++vput r.2
def ye9 (vs:List Int):List Int×Int:=if vs.length≤4096 then (vput (rle vs).length++((rle vs).map runB).flatten,0) else ([],4)
def ycn (b:List Int):Nat→Nat→List Int→List Int×Nat×Int
 | 0,p,out=>(out,p,0)
 | n+1,p,out =>
  if (vget b p).2.2≠0 then ([],0,(vget b p).2.2) else
  if (vget b (vget b p).2.1).2.2≠0 then ([],0,(vget b (vget b p).2.1).2.2) else
  if (vget b (vget b p).2.1).1=0 then ([],0,5) else
  if out.getLast?=some (ycy (vget b p).1) then ([],0,5) else
  if 4096-out.length<(vget b (vget b p).2.1).1 then ([],0,4) else
  ycn b n (vget b (vget b p).2.1).2.1 (out++List.replicate (vget b (vget b p).2.1).1 (ycy (vget b p).1))
def ydj (b:List Int):List Int×Int:=
 if (vget b 0).2.2≠0 then ([],(vget b 0).2.2) else
 if 4096<(vget b 0).1 then ([],4) else
 if (ycn b (vget b 0).1 (vget b 0).2.1 []).2.2≠0 then ([],(ycn b (vget b 0).1 (vget b 0).2.1 []).2.2) else
 if (ycn b (vget b 0).1 (vget b 0).2.1 []).2.1<b.length then ([],3) else ((ycn b (vget b 0).1 (vget b 0).2.1 []).1,0)
theorem yk5 {out:List Int} {k:Nat} {v:Int} (hk:0<k):(out++List.replicate k v).getLast?=some v:=by
 obtain⟨m,rfl⟩:∃ m,k=m+1:=⟨k-1,by omega⟩
 rw[List.replicate_succ',← List.append_assoc,List.getLast?_concat]
def Fits (out:List Int) (rs:List (Int×Nat)):Prop:=ygu rs∧∀ r∈rs.head?,out.getLast?≠some r.1
theorem ygu.tail {r:Int×Nat} {rs:List (Int×Nat)} (h:ygu (r::rs)):0<r.2∧ygu rs∧∀ s∈rs.head?,s.1≠r.1:=by
 cases rs with
 | nil=>exact⟨h,trivial,fun s hs=>by simp at hs⟩
 | cons a rs =>
  obtain⟨h1,h2,h3⟩:=h
  exact⟨h1,h3,fun s hs=>by simp at hs;subst hs;exact h2⟩
theorem ygu.cons {r:Int×Nat} {rs:List (Int×Nat)} (h0:0<r.2) (h:ygu rs) (hn:∀ s∈rs.head?,s.1≠r.1):ygu (r::rs):=by
 cases rs with
 | nil=>exact h0
 | cons a rs=>exact⟨h0,hn a (by simp),h⟩
theorem yjt (r:Int×Nat) (rs:List (Int×Nat)):yfb (r::rs)=List.replicate r.2 r.1++yfb rs:=by simp [yfb]
theorem yos {b:List Int}:∀ (rs:List (Int×Nat)) (p:Nat) (out Y:List Int),Fits out rs→(∀ r∈rs,I64 r.1)→out.length+(yfb rs).length≤4096→b.drop p=(rs.map runB).flatten++Y →
  ycn b rs.length p out=(out++yfb rs,p+((rs.map runB).flatten).length,0):=by
 intro rs
 induction rs with
 | nil=>intro p out Y _ _ _ _;simp [ycn,yfb]
 | cons r rs ih =>
  intro p out Y hf hi hl hd
  obtain⟨h0,h1,h2⟩:=hf.1.tail
  have hu:(yfb (r::rs)).length=r.2+(yfb rs).length:=by rw[yjt];simp
  rw[hu] at hl
  have e:((r::rs).map runB).flatten=runB r++(rs.map runB).flatten:=by simp
  rw[e] at hd ⊢
  unfold runB at hd
  rw[List.append_assoc,List.append_assoc] at hd
  have g1:=yfk (ygc (hi r (by simp))) hd
  have hd2:=yd9 hd
  have g2:=yfk (by omega) hd2
  have hd3:=yd9 hd2
  rw[List.length_cons,ycn,g1]
  simp only
  rw[g2]
  simp only
  rw[if_neg (by simp),if_neg (by simp),if_neg (by omega),yi7,if_neg (hf.2 r (by simp)),if_neg (by omega)]
  rw[ih _ _ Y ⟨h1,fun s hs=>by rw[yk5 h0];intro e;injection e with e;exact h2 s hs e.symm⟩ (fun s hs=>hi s (by simp [hs])) (by simp;omega) hd3]
  rw[yjt]
  simp [runB]
  omega
theorem yoh {b:List Int} (hb:Bys b):∀ (n p:Nat) (out:List Int),p≤b.length→out.length≤4096→(ycn b n p out).2.2=0 →
  ∃ rs,rs.length=n∧Fits out rs∧(∀ r∈rs,I64 r.1)∧(ycn b n p out).1=out++yfb rs∧(ycn b n p out).1.length≤4096∧(ycn b n p out).2.1≤b.length∧b.drop p=(rs.map runB).flatten++b.drop (ycn b n p out).2.1:=by
 intro n
 induction n with
 | zero =>
  intro p out hp ho h
  exact⟨[],rfl,⟨trivial,fun r hr=>(by simp at hr)⟩,fun r hr=>(by cases hr),by simp [ycn,yfb],ho,hp,by simp [ycn]⟩
 | succ n ih =>
  intro p out hp ho h
  rw[ycn] at h ⊢
  rcases hg:vget b p with ⟨u,q,e⟩
  rw[hg] at h
  simp only at h ⊢
  by_cases he:e=0
  rotate_left
  ·rw[if_pos he] at h;exact absurd h he
  subst he
  rw[if_neg (by simp)] at h ⊢
  rcases hg2:vget b q with ⟨k,t,e⟩
  rw[hg2] at h
  simp only at h ⊢
  by_cases he:e=0
  rotate_left
  ·rw[if_pos he] at h;exact absurd h he
  subst he
  rw[if_neg (by simp)] at h ⊢
  by_cases hk:k=0
  ·rw[if_pos hk] at h;exact absurd h (by decide)
  rw[if_neg hk] at h ⊢
  by_cases hv:out.getLast?=some (ycy u)
  ·rw[if_pos hv] at h;exact absurd h (by decide)
  rw[if_neg hv] at h ⊢
  by_cases hm:4096-out.length<k
  ·rw[if_pos hm] at h;exact absurd h (by decide)
  rw[if_neg hm] at h ⊢
  obtain⟨k1,k2,k3⟩:=yef hb hg
  obtain⟨k4,k5,k6⟩:=yef hb hg2
  obtain⟨rs,h1,h2,h3,h4,h5,h6,h7⟩:=ih t (out++List.replicate k (ycy u)) k5 (by simp;omega) h
  have hu:u<18446744073709551616:=by have:=ydz hb (p:=p) (by rw[hg]);rw[hg] at this;exact this
  refine⟨(ycy u,k)::rs,by simp [h1],⟨ygu.cons (by show 0<k;omega) h2.1 (fun s hs e=>h2.2 s hs (by rw[yk5 (by omega)];rw[e])),fun r hr=>by simp at hr;subst hr;exact hv⟩,fun r hr=>?_,?_,h5,h6,?_⟩
  ·rcases List.mem_cons.1 hr with rfl|hr
   ·exact ygv hu
   ·exact h3 r hr
  ·rw[h4,yjt];simp
  ·rw[k3,k6,h7]
   simp [runB,yi5]
theorem ypk {vs:List Int} (hl:vs.length≤4096) (hi:∀ v∈vs,I64 v):ydj (ye9 vs).1=(vs,0):=by
 unfold ye9
 rw[if_pos hl]
 simp only
 generalize hB:vput (rle vs).length++((rle vs).map runB).flatten=B
 have hr:=yh9 vs
 have hd:B.drop 0=vput (rle vs).length++((rle vs).map runB).flatten:=by rw[hB];rfl
 have g:=yfk (by omega) hd
 have hd2:=yd9 hd
 have hL:=yos (b:=B) (rle vs) (0+(vput (rle vs).length).length) [] [] ⟨rle_ok vs,fun r _=>by simp⟩ (fun r hr=>hi _ (yks hr).1) (by rw[ym1];simpa using hl) (by rw[hd2,List.append_nil])
 have hlen:B.length=(vput (rle vs).length).length+((rle vs).map runB).flatten.length:=by rw[← hB,List.length_append]
 unfold ydj
 rw[g]
 simp only
 rw[if_neg (by simp),if_neg (by omega),hL]
 simp only
 rw[if_neg (by simp),if_neg (by omega),List.nil_append,ym1]
theorem yja {b:List Int} (hb:Bys b) (h:(ydj b).2=0):ye9 (ydj b).1=(b,0)∧(∀ v∈(ydj b).1,I64 v)∧(ydj b).1.length≤4096:=by
 unfold ydj at h ⊢
 rcases hg:vget b 0 with ⟨n,q,e⟩
 rw[hg] at h
 simp only at h ⊢
 by_cases he:e=0
 rotate_left
 ·rw[if_pos he] at h;exact absurd h he
 subst he
 rw[if_neg (by simp)] at h ⊢
 by_cases hn:4096<n
 ·rw[if_pos hn] at h;exact absurd h (by decide)
 rw[if_neg hn] at h ⊢
 obtain⟨k1,k2,k3⟩:=yef hb hg
 by_cases hL:(ycn b n q []).2.2=0
 rotate_left
 ·rw[if_pos hL] at h;exact absurd h hL
 rw[if_neg (by simpa using hL)] at h ⊢
 obtain⟨rs,h1,h2,h3,h4,h5,h6,h7⟩:=yoh hb n q [] k2 (by simp) hL
 by_cases ht:(ycn b n q []).2.1<b.length
 ·rw[if_pos ht] at h;exact absurd h (by decide)
 rw[if_neg ht]
 simp only
 rw[List.nil_append] at h4
 refine⟨?_,fun v hv=>?_,h5⟩
 ·unfold ye9
  rw[if_pos h5,h4,ynm h2.1,h1]
  have:b=vput n++(rs.map runB).flatten:=by
   have e1:b.drop 0=b:=rfl
   rw[← e1,k3,h7,List.drop_eq_nil_of_le (show b.length≤(ycn b n q []).2.1 by omega),List.append_nil]
  rw[← this]
 ·rw[h4] at hv
  unfold yfb at hv
  obtain⟨l,hl,hv⟩:=List.mem_flatten.1 hv
  obtain⟨r,hr,rfl⟩:=List.mem_map.1 hl
  rw[List.eq_of_mem_replicate hv]
  exact h3 r hr
theorem ypt {b:List Int} (h:(ydj b).2≠0):(ydj b).1=[]:=by
 unfold ydj at h ⊢
 repeat' split
 all_goals simp_all
theorem yia {x w:Nat} (hx:x<2^64) (hw:w≤64):Lib.bitLen x≤w↔x<2^w:=by
 constructor
 ·intro h
  have:=ym4 64 x hx
  exact Nat.lt_of_lt_of_le this (Nat.pow_le_pow_right (by decide) h)
 ·intro h;exact Lib.bitLen_le x w hw h
theorem yjq {x:Nat} (hx:x<2^64):Lib.bitLen x≤64:=Lib.bitLen_le x 64 (by decide) hx
def widS:List Int→Nat
 | []=>0
 | u::us=>max (Lib.bitLen u.toNat) (widS us)
def U64s (us:List Int):Prop:=∀ u∈us,0≤u∧u<18446744073709551616
theorem ykv {us:List Int} (h:U64s us):widS us≤64:=by
 induction us with
 | nil=>simp [widS]
 | cons u us ih =>
  have h0:=h u (by simp)
  have h1:Lib.bitLen u.toNat≤64:=yjq (by omega)
  have h2:=ih (fun v hv=>h v (by simp [hv]))
  simp only[widS]
  omega
theorem ylj {us:List Int} (h:U64s us) {w:Nat} (hw:w≤64):widS us≤w↔Fit w us:=by
 induction us with
 | nil=>exact⟨fun _ u hu=>(by cases hu),fun _=>(by simp [widS])⟩
 | cons u us ih =>
  have h0:=h u (by simp)
  have ih:=ih (fun v hv=>h v (by simp [hv]))
  have hb:=yia (x:=u.toNat) (w:=w) (by omega) hw
  simp only[widS]
  rw[show max (Lib.bitLen u.toNat) (widS us)≤w↔Lib.bitLen u.toNat≤w∧widS us≤w by omega,hb,ih]
  constructor
  ·rintro⟨h1,h2⟩ v hv
   rcases List.mem_cons.1 hv with rfl|hv
   ·refine⟨h0.1,?_⟩
    have:((v.toNat:Nat):Int)<((2^w:Nat):Int):=by exact_mod_cast h1
    rw[Int.toNat_of_nonneg h0.1] at this
    push_cast at this
    exact this
   ·exact h2 v hv
  ·intro hf
   refine⟨?_,fun v hv=>hf v (by simp [hv])⟩
   have:=(hf u (by simp)).2
   have h3:((u.toNat:Nat):Int)<((2^w:Nat):Int):=by rw[Int.toNat_of_nonneg h0.1];push_cast;exact this
   exact_mod_cast h3
theorem ym7 {us:List Int} (h:U64s us):Fit (widS us) us:=(ylj h (ykv h)).1 (Nat.le_refl _)
theorem Fit.u64 {w:Nat} {us:List Int} (hw:w≤64) (h:Fit w us):U64s us:=fun u hu=>by
 refine⟨(h u hu).1,?_⟩
 have h1:=(h u hu).2
 have h2:(2:Nat)^w≤2^64:=Nat.pow_le_pow_right (by decide) hw
 have h3:((2^w:Nat):Int)≤((18446744073709551616:Nat):Int):=Int.ofNat_le.2 h2
 rw[Int.natCast_pow] at h3
 have h4:((2:Nat):Int)=2:=rfl
 rw[h4] at h3
 omega
def yd7:List Int→Int
 | []=>0
 | [v]=>v
 | v::u::vs=>min v (yd7 (u::vs))
theorem yiz:∀ {vs:List Int} {v:Int},v∈vs→yd7 vs≤v
 | [a],v,h=>by simp at h;subst h;exact Int.le_refl _
 | a::u::vs,v,h=>by
  simp only[yd7]
  rcases List.mem_cons.1 h with rfl|h
  ·omega
  ·have:=yiz h;omega
theorem ygh:∀ {vs:List Int},vs≠[]→yd7 vs∈vs
 | [a],_=>by simp [yd7]
 | a::u::vs,_=>by
  have:=ygh (vs:=u::vs) (by simp)
  simp only[yd7]
  by_cases h:a≤yd7 (u::vs)
  ·rw[Int.min_eq_left h];simp
  ·rw[Int.min_eq_right (by omega)];exact List.mem_cons_of_mem _ this
theorem ym3 {vs:List Int} {m:Int} (hm:m∈vs) (h:∀ v∈vs,m≤v):yd7 vs=m:=by
 have h1:=yiz hm
 have h2:=h _ (ygh (List.ne_nil_of_mem hm))
 omega
def farS (vs:List Int):List Int:=vs.map fun v=>v-yd7 vs
theorem ylm {vs:List Int} (h:∀ v∈vs,I64 v):U64s (farS vs):=by
 intro u hu
 obtain⟨v,hv,rfl⟩:=List.mem_map.1 hu
 have h1:=yiz hv
 obtain⟨h2,h3⟩:=h v hv
 obtain⟨h4,h5⟩:=h _ (ygh (List.ne_nil_of_mem hv))
 omega
theorem farS_zero {vs:List Int} (h:vs≠[]):(0:Int)∈farS vs:=List.mem_map.2 ⟨_,ygh h,by omega⟩
def yf2 (vs:List Int):List Int×Int:=
 if 4096<vs.length then ([],4) else if vs.length=0 then (vput 0,0) else
 (vput vs.length++vput (ydh (yd7 vs))++[((widS (farS vs):Nat):Int)]++yed (widS (farS vs)) (farS vs),0)
def yfl (b:List Int) (p n:Nat):List Int×Int:=
 if b.length≤p then ([],2) else
 if 64<b.getD p 0 then ([],5) else
 if (ybq (b.drop (p+1)) (b.getD p 0).toNat n).2≠0 then ([],(ybq (b.drop (p+1)) (b.getD p 0).toNat n).2) else
 if widS (ybq (b.drop (p+1)) (b.getD p 0).toNat n).1≠(b.getD p 0).toNat∨(0:Int) ∉ (ybq (b.drop (p+1)) (b.getD p 0).toNat n).1 then ([],5) else
 ((ybq (b.drop (p+1)) (b.getD p 0).toNat n).1,0)
def yfp (least:Int) (us:List Int):List Int×Int:=if ∃ d∈us,9223372036854775807-least<d then ([],5) else (us.map fun d=>least+d,0)
def yet (b:List Int):List Int×Int:=
 if (vget b 0).2.2≠0 then ([],(vget b 0).2.2) else
 if 4096<(vget b 0).1 then ([],4) else
 if (vget b 0).1=0 then (if (vget b 0).2.1<b.length then ([],3) else ([],0)) else
 if (vget b (vget b 0).2.1).2.2≠0 then ([],(vget b (vget b 0).2.1).2.2) else
 if (yfl b (vget b (vget b 0).2.1).2.1 (vget b 0).1).2≠0 then ([],(yfl b (vget b (vget b 0).2.1).2.1 (vget b 0).1).2) else
 yfp (ycy (vget b (vget b 0).2.1).1) (yfl b (vget b (vget b 0).2.1).2.1 (vget b 0).1).1
theorem yky {b Y:List Int} {p:Nat} {x:Int} (h:b.drop p=x::Y):p<b.length∧b.getD p 0=x∧b.drop (p+1)=Y:=by
 obtain⟨h1,h2,h3⟩:=yii h
 exact⟨h1,by rw[List.getD_eq_getElem?_getD,List.getElem?_eq_getElem h1,Option.getD_some,h2],h3⟩
theorem dec_encPk {vs:List Int} (hl:vs.length≤4096) (hi:∀ v∈vs,I64 v):yet (yf2 vs).1=(vs,0):=by
 unfold yf2
 rw[if_neg (by omega)]
 by_cases h0:vs.length=0
 ·rw[if_pos h0]
  obtain rfl:=List.eq_nil_of_length_eq_zero h0
  decide
 rw[if_neg h0]
 simp only
 have hne:vs≠[]:=fun e=>h0 (by rw[e];rfl)
 have hu:=ylm hi
 have hw:=ykv hu
 have hf:=ym7 hu
 have hfl:(farS vs).length=vs.length:=by simp [farS]
 have hI:=hi _ (ygh hne)
 have hB:vput vs.length++vput (ydh (yd7 vs))++[((widS (farS vs):Nat):Int)]++yed (widS (farS vs)) (farS vs)=vput vs.length++(vput (ydh (yd7 vs))++(((widS (farS vs):Nat):Int)::yed (widS (farS vs)) (farS vs))):=by rw[List.append_assoc,List.append_assoc];rfl
 rw[hB]
 generalize hB2:vput vs.length++(vput (ydh (yd7 vs))++(((widS (farS vs):Nat):Int)::yed (widS (farS vs)) (farS vs)))=B
 have hd:B.drop 0=vput vs.length++(vput (ydh (yd7 vs))++(((widS (farS vs):Nat):Int)::yed (widS (farS vs)) (farS vs))):=hB2.symm
 have g1:=yfk (by omega) hd
 have hd2:=yd9 hd
 have g2:=yfk (ygc hI) hd2
 have hd3:=yd9 hd2
 obtain⟨k1,k2,k3⟩:=yky hd3
 unfold yet
 rw[g1]
 simp only
 rw[if_neg (by simp),if_neg (by omega),if_neg h0,g2]
 simp only
 rw[if_neg (by simp)]
 have hun:=yi3 hf
 rw[hfl] at hun
 have hds:yfl B (0+(vput vs.length).length+(vput (ydh (yd7 vs))).length) vs.length=(farS vs,0):=by
  unfold yfl
  rw[if_neg (by omega),k2,if_neg (by omega),k3,Int.toNat_natCast,hun]
  simp only
  rw[if_neg (by simp),if_neg]
  rintro(h|h)
  ·exact h rfl
  ·exact h (farS_zero hne)
 rw[hds]
 simp only
 rw[if_neg (by simp),yi7]
 unfold yfp
 rw[if_neg]
 ·rw[Prod.mk.injEq]
  refine⟨?_,rfl⟩
  unfold farS
  rw[List.map_map]
  conv=>rhs;rw[← List.map_id vs]
  refine List.map_congr_left fun v hv=>?_
  simp
  omega
 ·rintro⟨d,hd,hlt⟩
  obtain⟨v,hv,rfl⟩:=List.mem_map.1 hd
  have:=(hi v hv).2
  omega
theorem yo2 {b:List Int} (hb:Bys b) {p n:Nat} (h:(yfl b p n).2=0):∃ us w,yfl b p n=(us,0)∧us.length=n∧w≤64∧widS us=w∧Fit w us∧(0:Int)∈us∧b.drop p=((w:Nat):Int)::yed w us:=by
 unfold yfl at h ⊢
 split at h
 ·simp at h
 rename_i h1
 rw[if_neg h1]
 split at h
 ·simp at h
 rename_i h2
 rw[if_neg h2]
 have hp:b.getD p 0=b[p]:=by rw[List.getD_eq_getElem?_getD,List.getElem?_eq_getElem (by omega),Option.getD_some]
 have hx:=hb b[p] (List.getElem_mem _)
 rw[hp] at h h2 ⊢
 split at h
 ·rename_i h3;exact absurd h h3
 rename_i h3
 rw[if_neg h3]
 split at h
 ·simp at h
 rename_i h4
 rw[if_neg h4]
 have h3':(ybq (b.drop (p+1)) (b[p]).toNat n).2=0:=by simpa using h3
 have hpu:=ygp (hb.drop (p+1)) (us:=(ybq (b.drop (p+1)) (b[p]).toNat n).1) (Prod.ext rfl h3')
 refine⟨_,(b[p]).toNat,rfl,hpu.1,by omega,?_,hpu.2.1,?_,?_⟩
 ·exact Decidable.byContradiction fun e=>h4 (.inl e)
 ·exact Decidable.byContradiction fun e=>h4 (.inr e)
 ·rw[hpu.2.2,Int.toNat_of_nonneg hx.1]
  exact List.drop_eq_getElem_cons _
theorem ykb {b:List Int} (hb:Bys b) (h:(yet b).2=0):yf2 (yet b).1=(b,0)∧(∀ v∈(yet b).1,I64 v)∧(yet b).1.length≤4096:=by
 unfold yet at h ⊢
 rcases hg:vget b 0 with ⟨n,q,e⟩
 rw[hg] at h
 simp only at h ⊢
 by_cases he:e=0
 rotate_left
 ·rw[if_pos he] at h;exact absurd h he
 subst he
 rw[if_neg (by simp)] at h ⊢
 by_cases hn:4096<n
 ·rw[if_pos hn] at h;exact absurd h (by decide)
 rw[if_neg hn] at h ⊢
 obtain⟨k1,k2,k3⟩:=yef hb hg
 by_cases h0:n=0
 ·rw[if_pos h0] at h ⊢
  by_cases hq:q<b.length
  ·rw[if_pos hq] at h;exact absurd h (by decide)
  rw[if_neg hq]
  subst h0
  refine⟨?_,fun v hv=>(by cases hv),by simp⟩
  unfold yf2
  simp only[List.length_nil]
  rw[if_neg (by omega),if_pos trivial,Prod.mk.injEq]
  refine⟨?_,rfl⟩
  have e1:b.drop 0=b:=rfl
  rw[← e1,k3,List.drop_eq_nil_of_le (by omega),List.append_nil]
 rw[if_neg h0] at h ⊢
 rcases hg2:vget b q with ⟨u,t,e⟩
 rw[hg2] at h
 simp only at h ⊢
 by_cases he:e=0
 rotate_left
 ·rw[if_pos he] at h;exact absurd h he
 subst he
 rw[if_neg (by simp)] at h ⊢
 obtain⟨k4,k5,k6⟩:=yef hb hg2
 by_cases hd:(yfl b t n).2=0
 rotate_left
 ·rw[if_pos hd] at h;exact absurd h hd
 obtain⟨us,w,hds,hul,hw,hws,hf,hz,hdr⟩:=yo2 hb hd
 rw[hds] at h ⊢
 simp only at h ⊢
 rw[if_neg (by simp)] at h ⊢
 have hu:u<18446744073709551616:=by have:=ydz hb (p:=q) (by rw[hg2]);rw[hg2] at this;exact this
 obtain⟨i1,i2⟩:=ygv hu
 unfold yfp at h ⊢
 split at h
 ·simp at h
 rename_i hno
 rw[if_neg hno]
 simp only
 have hle:∀ d∈us,0≤d∧d≤9223372036854775807-ycy u:=fun d hd=>⟨(hf d hd).1,Int.not_lt.1 fun hlt=>hno ⟨d,hd,hlt⟩⟩
 have hlst:yd7 (us.map fun d=>ycy u+d)=ycy u:=ym3 (List.mem_map.2 ⟨0,hz,by omega⟩) (fun v hv=>by obtain⟨d,hd,rfl⟩:=List.mem_map.1 hv;have:=(hle d hd).1;omega)
 have hfar:farS (us.map fun d=>ycy u+d)=us:=by
  unfold farS
  rw[hlst,List.map_map]
  conv=>rhs;rw[← List.map_id us]
  refine List.map_congr_left fun d hd=>?_
  simp
  omega
 refine⟨?_,fun v hv=>?_,by rw[List.length_map];omega⟩
 ·unfold yf2
  rw[List.length_map,hul,if_neg hn,if_neg h0,hlst,hfar,hws,yi5]
  rw[Prod.mk.injEq]
  refine⟨?_,rfl⟩
  have e1:b.drop 0=b:=rfl
  conv=>rhs;rw[← e1,k3,k6,hdr]
  simp
 ·obtain⟨d,hd,rfl⟩:=List.mem_map.1 hv
  have:=hle d hd
  unfold I64
  omega
theorem decPk_err {b:List Int} (h:(yet b).2≠0):(yet b).1=[]:=by
 unfold yet yfp at h ⊢
 repeat' split
 all_goals simp_all
end Go.Proofs.YteeikgjjgfdjgaaGreat.PK
end
