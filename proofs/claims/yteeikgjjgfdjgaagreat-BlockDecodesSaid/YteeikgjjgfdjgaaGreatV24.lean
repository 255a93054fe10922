/-
  Parts of the proof: Xa.
-/
import Derived.Test.YteeikgjjgfdjgaaGreatV22
section
namespace Go.Proofs.YteeikgjjgfdjgaaGreat.PK
open Go.RowKit YteeikgjjgfdjgaaGreatW.PrintWords YteeikgjjgfdjgaaGreatW.PrintLast YteeikgjjgfdjgaaGreatW.PrintMore
set_option linter.unusedVariables false
set_option linter.unusedSimpArgs false
structure OwnT where
 c:Cel
 u:Value
 og:Option Nat
def celV (c:Cel) (u:Value):List Value:=[.bool c.f0,.int .i64 c.f1,u]
def OwnT.row (t:OwnT):List Value:=celV t.c t.u
def ApT (a b:OwnT):Prop:=∀ g,a.og=some g→b.og≠some g
structure CelT (w:World) (base:Nat) (v:Value) (ts:List OwnT):Prop where
 each:∀ t∈ts,Byt w base t.og t.u t.c.f2
 apart:ts.Pairwise ApT
 row:Kd.R (Kd.raw 3) 53 w base (fun _=>True) v (ts.map OwnT.row)
def CelB (w:World) (base:Nat) (v:Value) (l:List Cel):Prop:=∃ ts,ts.map (·.c)=l∧CelT w base v ts
theorem CelT.reads {w:World} {base:Nat} {v:Value} {ts:List OwnT} (h:CelT w base v ts):∃ A c,v=.slice A ts.length c∧ts.length≤c∧Kd.C k53 w A ts.length (ts.map (·.c)):=by
 obtain⟨A,c,rfl,hc,hC⟩:=Kd.R_reads h.row
 rw[List.length_map] at hc hC ⊢
 refine⟨A,c,rfl,hc,by rw[List.length_map],hC.2.1,fun hp=>?_⟩
 obtain⟨ad,rfl,hcell⟩:=hC.2.2 hp
 refine⟨ad,rfl,fun j p hj=>?_⟩
 rw[List.getElem?_map,Option.map_eq_some_iff] at hj
 obtain⟨t,ht,rfl⟩:=hj
 obtain⟨A',c',hu,hc',hC'⟩:=(h.each t (List.mem_of_getElem? ht)).reads
 obtain⟨c0,hc0,hK,hce⟩:=hcell j t.row (by rw[List.getElem?_map,ht];rfl)
 obtain⟨rfl,_⟩:=hK
 refine⟨_,rfl,⟨[.bool t.c.f0],[.int .i64 t.c.f1,t.u],rfl,rfl,[.int .i64 t.c.f1],[t.u],rfl,rfl,A',c',?_,hc',hC'⟩,hce⟩
 rw[hu]
theorem CelB.reads {w:World} {base:Nat} {v:Value} {l:List Cel} (h:CelB w base v l):∃ A c,v=.slice A l.length c∧l.length≤c∧Kd.C k53 w A l.length l:=by
 obtain⟨ts,rfl,h⟩:=h
 have:=h.reads
 rw[List.length_map]
 exact this
theorem CelT.keep {w w':World} {base:Nat} {v:Value} {ts:List OwnT} (h:CelT w base v ts) (hk:∀ k,base≤k→k<w.heap.size→w'.heap[k]?=w.heap[k]?):CelT w' base v ts:=
 ⟨fun t ht=>(h.each t ht).keep (fun g hg=>hk g ((h.each t ht).base_le g hg) ((h.each t ht).lt g hg)),h.apart,Kd.R_mono (Kd.R_step (Kd.R_bound h.row) (fun k hk' hl=>hk k hk'.2.1 hl)) (fun _ _=>trivial)⟩
theorem CelB.below {w w':World} {base:Nat} {v:Value} {l:List Cel} (h:CelB w base v l) (hb:Below w.heap.size w w'):CelB w' base v l:=by
 obtain⟨ts,e,h⟩:=h
 exact⟨ts,e,h.keep (fun k _ hk=>hb.block k hk)⟩
theorem CelB.lower {w:World} {base base':Nat} {v:Value} {l:List Cel} (h:CelB w base v l) (hb:base'≤base):CelB w base' v l:=by
 obtain⟨ts,e,h1,h2,h3⟩:=h
 exact⟨ts,e,fun t ht=>(h1 t ht).lower hb,h2,Kd.R_lower h3 hb⟩
theorem CelB.nil (w:World) (base:Nat):CelB w base (.slice none 0 0) []:=⟨[],rfl,fun t ht=>(by cases ht),List.Pairwise.nil,Kd.R_nil _ _ _ _ _⟩
theorem CelB.of_S {w:World} {base:Nat} {v:Value} {l:List Cel} {ok:Nat→Prop} (h:Kd.S k53 53 w base ok v l):CelB w base v l:=by
 obtain⟨f,hok,inner,ho,hr⟩:=h
 have hM:∀ j (hj:j<l.length),∃ u,(inner.drop (j*3)).take 3=celV l[j] u∧Byt w base u.ownBlock u l[j].f2∧∀ k,u.ownBlock=some k→f k=j:=by
  intro j hj
  obtain⟨c0,c1,e1,hc0,d0,d1,rfl,hd0,u,rfl,hu⟩:=hr.2 j (l[j],j) (by rw[List.getElem?_zipIdx,List.getElem?_eq_getElem hj];simp)
  obtain rfl:c0=[.bool l[j].f0]:=hc0
  obtain rfl:d0=[.int .i64 l[j].f1]:=hd0
  exact⟨u,e1,Byt.of_own (Kd.own_of_R hu),fun k hk=>(hu.1 k hk).2⟩
 obtain⟨us,hul,hus⟩:∃ us:List Value,us.length=l.length∧∀ j (hj:j<l.length) (h:j<us.length),(inner.drop (j*3)).take 3=celV l[j] us[j]∧Byt w base us[j].ownBlock us[j] l[j].f2∧∀ k,us[j].ownBlock=some k→f k=j:=
  ⟨List.ofFn (fun j:Fin l.length=>(hM j.1 j.2).choose),by simp,fun j hj h=>by simpa using (hM j hj).choose_spec⟩
 have hget:∀ j (hj:j<(List.zipWith (fun c u=>OwnT.mk c u u.ownBlock) l us).length),(List.zipWith (fun c u=>OwnT.mk c u u.ownBlock) l us)[j]=⟨l[j]'(by simp at hj;omega),us[j]'(by simp at hj;omega),(us[j]'(by simp at hj;omega)).ownBlock⟩:=fun j hj=>by simp
 have hzl:(List.zipWith (fun c u=>OwnT.mk c u u.ownBlock) l us).length=l.length:=by simp [hul]
 refine⟨List.zipWith (fun c u=>⟨c,u,u.ownBlock⟩) l us,?_,fun t ht=>?_,?_,?_⟩
 ·apply List.ext_getElem (by simp [hul])
  intro j h1 h2
  rw[List.getElem_map,hget]
 ·obtain⟨j,hj,rfl⟩:=List.mem_iff_getElem.1 ht
  rw[hget]
  exact(hus j (by omega) (by omega)).2.1
 ·rw[List.pairwise_iff_getElem]
  intro i j hi hj hij g h1 h2
  rw[hget] at h1 h2
  have e1:=(hus i (by omega) (by omega)).2.2 g h1
  have e2:=(hus j (by omega) (by omega)).2.2 g h2
  omega
 ·rw[List.length_zipIdx] at ho
  refine⟨fun _ _=>trivial,inner,by rw[List.length_map,hzl];exact ho,?_,fun j p hj=>?_⟩
  ·rw[List.length_map,hzl]
   have:=hr.1
   rw[List.length_zipIdx] at this
   exact this
  ·rw[List.getElem?_map,Option.map_eq_some_iff] at hj
   obtain⟨t,ht,rfl⟩:=hj
   obtain⟨hjl,rfl⟩:=List.getElem?_eq_some_iff.1 ht
   rw[hget]
   obtain⟨h1,h2,_⟩:=hus j (by omega) (by omega)
   refine⟨h1,by rw[show(Kd.raw 3).sz=3 from rfl,h1];rfl,?_⟩
   rw[show(Kd.raw 3).sz=3 from rfl,h1]
   intro x hx
   obtain⟨A',c',e,_,_⟩:=h2.reads
   rw[e] at hx
   simp only[celV,List.mem_cons,List.not_mem_nil,or_false] at hx
   rcases hx with rfl|rfl|rfl <;> rfl
def ycr {α:Type} (z:α):List Int→List α→List α
 | [],_=>[]
 | u::us,vs=>if u=1 then z::ycr z us vs else vs.headD z::ycr z us vs.tail
theorem yis:∀ (us:List Int) (vs:List Cel),yc4 us vs=ycr yex us vs
 | [],_=>rfl
 | u::us,vs=>by rw[yc4,ycr,yis us vs,yis us vs.tail]
theorem yib {α β:Type} (f:α→β) (z:α):∀ (us:List Int) (vs:List α),(ycr z us vs).map f=ycr (f z) us (vs.map f)
 | [],_=>rfl
 | u::us,vs=>by
  have h1:(vs.map f).headD (f z)=f (vs.headD z):=by cases vs <;> rfl
  have h2:(vs.map f).tail=vs.tail.map f:=by cases vs <;> rfl
  rw[ycr,ycr,h1,h2]
  split
  ·rw[List.map_cons,yib f z us vs]
  ·rw[List.map_cons,yib f z us vs.tail]
theorem yh6 {α:Type} (z:α):∀ (us:List Int) (vs:List α),(ycr z us vs).length=us.length
 | [],_=>rfl
 | u::us,vs=>by
  rw[ycr]
  split <;> simp [yh6]
theorem yg4 {α:Type} {z t:α}:∀ {us:List Int} {vs:List α},t∈ycr z us vs→t=z∨t∈vs
 | [],_,h=>by cases h
 | u::us,vs,h=>by
  rw[ycr] at h
  split at h
  ·rcases List.mem_cons.1 h with h|h
   ·exact .inl h
   ·exact yg4 h
  ·cases vs with
   | nil =>
    rcases List.mem_cons.1 h with h|h
    ·exact .inl h
    ·exact yg4 h
   | cons a t' =>
    rcases List.mem_cons.1 h with h|h
    ·exact .inr (by rw[h];simp)
    ·exact(yg4 h).elim .inl (fun h=>.inr (by simp only[List.tail_cons] at h;simp [h]))
theorem yhj {z:OwnT} (hz:z.og=none):∀ (us:List Int) (vs:List OwnT),vs.Pairwise ApT→(ycr z us vs).Pairwise ApT
 | [],_,_=>List.Pairwise.nil
 | u::us,vs,h=>by
  have hz1:∀ b,ApT z b:=fun b g hg=>by rw[hz] at hg;cases hg
  have hz2:∀ a,ApT a z:=fun a g _ hg=>by rw[hz] at hg;cases hg
  rw[ycr]
  split
  ·exact List.pairwise_cons.2 ⟨fun b _=>hz1 b,yhj hz us vs h⟩
  ·cases vs with
   | nil=>exact List.pairwise_cons.2 ⟨fun b _=>hz1 b,yhj hz us [] h⟩
   | cons a t =>
    obtain⟨h1,h2⟩:=List.pairwise_cons.1 h
    exact List.pairwise_cons.2 ⟨fun b hb=>(yg4 hb).elim (fun e=>e▸hz2 a) (h1 b),yhj hz us t h2⟩
theorem yi8 {α:Type} (z:α) (u:Int):∀ (us:List Int) (vs:List α),(∀ x∈us,x=0∨x=1)→ycr z (us++[u]) vs=ycr z us vs++[if u=1 then z else (vs.drop (ya8 us)).headD z]
 | [],vs,_=>by
  rw[List.nil_append,ycr]
  split <;> simp_all [ycr,ya8]
 | x::us,vs,h=>by
  rw[List.cons_append,ycr,ycr]
  have hx:=h x (by simp)
  have ih:=fun vs=>yi8 z u us vs (fun y hy=>h y (by simp [hy]))
  by_cases h1:x=1
  ·rw[if_pos h1,if_pos h1,ih,List.cons_append]
   have:ya8 (x::us)=ya8 us:=by subst h1;unfold ya8;rw[List.count_cons];simp
   rw[this]
  ·rw[if_neg h1,if_neg h1,ih,List.cons_append]
   have h0:x=0:=hx.resolve_right h1
   have:ya8 (x::us)=ya8 us+1:=by subst h0;unfold ya8;rw[List.count_cons];simp
   rw[this]
   congr 4
   cases vs <;> simp
def yem:OwnT:=⟨yex,.slice none 0 0,none⟩
theorem CelT.merge {w w':World} {base:Nat} {v v':Value} {ts:List OwnT} {us:List Int} (h:CelT w base v ts) (hb:Below w.heap.size w w') (hR:Kd.R (Kd.raw 3) 53 w' base (fun _=>True) v' (ycr yem.row us (ts.map OwnT.row))):CelB w' base v' (yc4 us (ts.map (·.c))):=by
 refine⟨ycr yem us ts,?_,fun t ht=>?_,yhj rfl us ts h.apart,?_⟩
 ·rw[yis,yib];rfl
 ·rcases yg4 ht with rfl|ht
  ·exact .inl ⟨rfl,rfl,rfl⟩
  ·exact(h.each t ht).keep (fun g hg=>hb.block g ((h.each t ht).lt g hg))
 ·rw[yib];exact hR
end Go.Proofs.YteeikgjjgfdjgaaGreat.PK
end
