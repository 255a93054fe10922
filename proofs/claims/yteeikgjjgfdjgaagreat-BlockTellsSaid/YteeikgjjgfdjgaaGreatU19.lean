/-
  Parts of the proof: AKpw, AKpr.
-/
import Derived.Test.YteeikgjjgfdjgaaGreatU16
set_option maxHeartbeats 2000000
section
namespace Go.Proofs.YteeikgjjgfdjgaaGreat.PK
open Go.RowKit YteeikgjjgfdjgaaGreatW.PrintWords YteeikgjjgfdjgaaGreatW.PrintLast YteeikgjjgfdjgaaGreatW.PrintMore
set_option linter.unusedVariables false
set_option linter.unusedSimpArgs false
theorem yqt (n:Nat) (hn:n≤4611686018427387904):Ev (fun k=>yed.f k (n:Int)) ((wid n:Nat):Int):=by
 by_cases h0:n=0
 ·subst h0
  refine Ev.same (fun k=>?_) (Ev.now _)
  unfold yed.f
  rw[if_pos (show((0:Nat):Int)=0 from rfl)]
  rfl
 ·refine Ev.same (g:=fun k=>(yao.f k [((n-1:Nat):Int)]).bind fun t=>some t) (fun k=>?_) (Ev.bind (yqo (n-1) (by omega)) (Ev.now _))
  unfold yed.f
  rw[if_neg (by omega),w64 (by omega) (by omega),wraps_u64 _ (by omega) (by omega),show(n:Int)-1=((n-1:Nat):Int) from by omega]
theorem rpack_in (w:Nat) (hw:w≤64) (us) (i:Nat):∀ (n j:Nat),j+n=w→∀ (out:List Int) (p v:Nat),Bys out→le out<2^p→out.length=(p+7) / 8→v<2^n→p+n<1099511627776 →
  ∃ out',Bys out'∧out'.length=(p+n+7) / 8∧le out'=le out+v*2^p∧∀ res,Ev (fun k=>yag.l0 k (w:Int) us out' ((p+n:Nat):Int) (wrap64 (i+1))) res→Ev (fun k=>yag.l1 k (w:Int) us out (p:Int) (i:Int) (v:Int) (j:Int)) res:=by
 intro n
 induction n with
 | zero =>
  intro j hj out p v hb hX hlen hv hp
  have hv0:v=0:=by simpa using hv
  subst hv0
  refine⟨out,hb,by omega,by simp,fun res h=>Ev.step (fun k=>?_) h⟩
  rw[yag.l1,if_neg (by omega),Nat.add_zero]
 | succ n ih =>
  intro j hj out p v hb hX hlen hv hp
  obtain⟨q,hq⟩:∃ q,q=p / 8:=⟨_,rfl⟩
  obtain⟨r,hr⟩:∃ r,r=p%8:=⟨_,rfl⟩
  have hpq:p=8*q+r:=by omega
  have hv64:v<18446744073709551616:=Nat.lt_of_lt_of_le hv (Nat.pow_le_pow_right (n:=2) (j:=64) (by decide) (by omega))
  obtain⟨o,ho⟩:∃ o:List Int,o=if r=0 then out++[0] else out:=⟨_,rfl⟩
  have hob:Bys o:=by
   rw[ho]
   split
   ·exact hb.append (fun x hx=>by simp at hx;omega)
   ·exact hb
  have hoX:le o=le out:=by
   rw[ho]
   split
   ·rw[ykf];simp [le]
   ·rfl
  have hol:o.length=(p+1+7) / 8:=by
   rw[ho]
   split
   ·simp;omega
   ·omega
  have hql:q<o.length:=by omega
  have hbl:=byte_lt hob hpq hql (by rw[hoX];exact hX)
  have hrr:2^r≤2^7:=Nat.pow_le_pow_right (by decide) (by omega)
  have hv2:v%2*2^r≤1*2^r:=Nat.mul_le_mul_right _ (by omega)
  have hnew:o[q].toNat+v%2*2^r<256:=by omega
  have hby:=hob o[q] (List.getElem_mem hql)
  have hset:=yma hql (v%2*2^r)
  have e256:v%2*2^r*256^q=v%2*2^p:=by rw[ygz,Nat.mul_assoc,← Nat.pow_add,hpq,Nat.add_comm]
  rw[e256,hoX] at hset
  have hX':le (o.set q ((o[q].toNat+v%2*2^r:Nat):Int))<2^(p+1):=by
   have h3:v%2*2^p≤1*2^p:=Nat.mul_le_mul_right _ (by omega)
   rw[hset,Nat.pow_succ]
   omega
  obtain⟨out',k1,k2,k3,k4⟩:=ih (j+1) (by omega) (o.set q ((o[q].toNat+v%2*2^r:Nat):Int)) (p+1) (v / 2) (hob.set (by omega)) hX' (by simp;omega) (by rw[Nat.pow_succ] at hv;omega) (by omega)
  refine⟨out',k1,by omega,?_,fun res h=>?_⟩
  ·rw[k3,hset,Nat.pow_succ,Nat.add_assoc]
   congr 1
   have:=Nat.mod_add_div v 2
   conv=>rhs;rw[← this,Nat.add_mul]
   congr 1
   rw[Nat.mul_comm (2^p) 2,← Nat.mul_assoc,Nat.mul_comm 2 (v / 2)]
  ·have hrec:=k4 res (by rw[show p+1+n=p+(n+1) from by omega];exact h)
   clear k1 k2 k3 k4 hset e256 hX' hX hoX hob hbl hrr hv2 h hv hb ih
   have hp1:p<9223372036854775807:=by omega
   have hj1:j<9223372036854775807:=by omega
   have c1:(j:Int)<(w:Int):=by omega
   have c2:out.length<140737488355328:=by omega
   have c3:(0:Int)≤(q:Int):=by omega
   have c4:(q:Int)<(o.length:Int):=by omega
   have hr7:r≤63:=by omega
   have ey:rd o (q:Int)=((o[q].toNat:Nat):Int):=by rw[yb3 hql];omega
   have en:(((o[q].toNat:Nat):Int)+(IntKind.u64.wrap ((Int.tmod (v:Int) 2)*((2^r:Nat):Int)))%256)%256=((o[q].toNat+v%2*2^r:Nat):Int):=by
    rw[Int.tmod_eq_emod_of_nonneg (by omega),show(v:Int)%2=((v%2:Nat):Int) from by omega,← Int.natCast_mul,wraps_u64 _ (by omega) (by omega)]
    omega
   have ev:IntKind.u64.wrap (Int.tdiv (v:Int) 2)=((v / 2:Nat):Int):=by rw[Int.tdiv_eq_ediv_of_nonneg (by omega),wraps_u64 _ (by omega) (by omega)];omega
   have er:Int.tmod (p:Int) 8=(r:Int):=by clear ev en ey;rw[Int.tmod_eq_emod_of_nonneg (by omega)];omega
   have eq:wrap64 (Int.tdiv (p:Int) 8)=(q:Int):=by clear ev en ey er;rw[Int.tdiv_eq_ediv_of_nonneg (by omega),w64 (by omega) (by omega)];omega
   have ep:wrap64 ((p:Int)+1)=((p+1:Nat):Int):=w64s p hp1
   have ej:wrap64 ((j:Int)+1)=((j+1:Nat):Int):=w64s j hj1
   rw[← en] at hrec
   by_cases h0:r=0
   ·rw[if_pos h0] at ho
    have h0':(r:Int)=0:=by clear eq er ep ej ev en ey;omega
    refine Ev.step (g:=fun k=>(ybl.f k (r:Int)).bind fun t=>yag.l1 k (w:Int) us (o.set q ((((o[q].toNat:Nat):Int)+(IntKind.u64.wrap ((Int.tmod (v:Int) 2)*t))%256)%256)) ((p+1:Nat):Int) (i:Int) ((v / 2:Nat):Int) ((j+1:Nat):Int)) (fun k=>?_) (Ev.bind (yng r hr7) hrec)
    rw[yag.l1,if_pos c1,er,if_pos h0',if_pos c2,Option.bind_some,← ho,eq,if_pos c3,if_pos c4]
    simp only[ep,ej,ev,ey,Int.toNat_natCast]
   ·rw[if_neg h0] at ho
    subst ho
    have h0':¬ (r:Int)=0:=by clear eq er ep ej ev en ey;omega
    refine Ev.step (g:=fun k=>(ybl.f k (r:Int)).bind fun t=>yag.l1 k (w:Int) us (o.set q ((((o[q].toNat:Nat):Int)+(IntKind.u64.wrap ((Int.tmod (v:Int) 2)*t))%256)%256)) ((p+1:Nat):Int) (i:Int) ((v / 2:Nat):Int) ((j+1:Nat):Int)) (fun k=>?_) (Ev.bind (yng r hr7) hrec)
    rw[yag.l1,if_pos c1,er,if_neg h0',eq,if_pos c3,if_pos c4]
    simp only[ep,ej,ev,ey,Int.toNat_natCast]
theorem rpack_out {w:Nat} (hw:w≤64) {us:List Int} (hf:Fit w us) (hl:us.length≤4096):∀ (n i:Nat) (out:List Int),i+n=us.length→Bys out→out.length=(w*i+7) / 8→le out=yfe w (us.take i) →
  Ev (fun k=>yag.l0 k (w:Int) us out ((w*i:Nat):Int) (i:Int)) (ydg w us,0):=by
 intro n
 induction n with
 | zero =>
  intro i out h hb hlen hX
  refine Ev.step (fun k=>?_) (Ev.now _)
  rw[yag.l0,if_neg (by omega)]
  rw[List.take_of_length_le (by omega)] at hX
  obtain rfl:i=us.length:=by omega
  rw[← yh0 hb,hlen,hX]
  rfl
 | succ n ih =>
  intro i out h hb hlen hX
  have hi:i<us.length:=by omega
  have hu:=(hf us[i] (List.getElem_mem hi))
  have hu2:us[i].toNat<2^w:=by
   obtain⟨m,hm⟩:=Int.eq_ofNat_of_zero_le hu.1
   rw[hm] at hu ⊢
   rw[Int.toNat_natCast]
   exact_mod_cast hu.2
  have hwi:w*i≤64*4096:=Nat.mul_le_mul hw (by omega)
  have hlt:=yjl (hf.take i)
  rw[← hX,List.length_take,Nat.min_eq_left (by omega)] at hlt
  obtain⟨out',k1,k2,k3,k4⟩:=rpack_in w hw us i w 0 (by omega) out (w*i) us[i].toNat hb hlt hlen hu2 (by omega)
  refine Ev.step (g:=fun k=>yag.l1 k (w:Int) us out ((w*i:Nat):Int) (i:Int) ((us[i].toNat:Nat):Int) ((0:Nat):Int)) (fun k=>?_) (k4 _ ?_)
  ·rw[yag.l0,if_pos (by omega),if_pos (by omega),yb3 hi,Int.toNat_of_nonneg hu.1]
   rfl
  ·rw[w64s i (by omega),show w*i+w=w*(i+1) from by rw[Nat.mul_add,Nat.mul_one]]
   refine ih (i+1) out' (by omega) k1 (by rw[k2,Nat.mul_add,Nat.mul_one]) ?_
   rw[k3,hX,← ybc us i hi,ymf,List.length_take,Nat.min_eq_left (by omega)]
theorem rpack {w:Nat} (hw:w≤64) {us:List Int} (hf:Fit w us) (hl:us.length≤4096):Ev (fun k=>yag.f k (w:Int) us) (ydg w us,0):=by
 obtain⟨b,hb,he⟩:=rw_out hw hf (by omega) us.length 0 0 (by omega) (by omega)
 have hmain:=rpack_out hw hf hl us.length 0 [] (by omega) (fun x hx=>by simp at hx) (by simp) (by simp [le,yfe])
 refine Ev.step (g:=fun k=>(yao.f k us).bind fun t=>if t > (w:Int) then some (([]:List Int),10) else yag.l0 k (w:Int) us [] 0 0) (fun k=>?_) (Ev.bind he (Ev.same (fun k=>?_) hmain))
 ·unfold yag.f
  rw[if_neg (by omega),yag.j0,if_neg (by simp;omega),if_neg (by omega)]
 ·rw[if_neg (by omega)]
  simp
end Go.Proofs.YteeikgjjgfdjgaaGreat.PK
end
