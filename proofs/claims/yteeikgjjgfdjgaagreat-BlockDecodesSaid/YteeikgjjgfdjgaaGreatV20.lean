/-
  Parts of the proof: Cs, Ct.
-/
import Derived.Test.YteeikgjjgfdjgaaGreatV19
section
namespace Go.Proofs.YteeikgjjgfdjgaaGreat.PK
open Go.RowKit YteeikgjjgfdjgaaGreatW.PrintWords YteeikgjjgfdjgaaGreatW.PrintLast YteeikgjjgfdjgaaGreatW.PrintMore
set_option linter.unusedVariables false
set_option linter.unusedSimpArgs false
theorem bitLen_or {a b:Nat} (ha:a<2^64) (hb:b<2^64):Lib.bitLen (a ||| b)=max (Lib.bitLen a) (Lib.bitLen b):=by
 have hab:a ||| b<2^64:=Nat.or_lt_two_pow ha hb
 have h1:=yjq ha
 have h2:=yjq hb
 have key:∀ w,w≤64→(Lib.bitLen (a ||| b)≤w↔Lib.bitLen a≤w∧Lib.bitLen b≤w):=by
  intro w hw
  rw[yia hab hw,yia ha hw,yia hb hw]
  exact⟨fun h=>⟨Nat.lt_of_le_of_lt Nat.left_le_or h,Nat.lt_of_le_of_lt Nat.right_le_or h⟩,fun h=>Nat.or_lt_two_pow h.1 h.2⟩
 have h3:=yjq hab
 apply Nat.le_antisymm
 ·exact(key _ (by omega)).2 ⟨by omega,by omega⟩
 ·have:=(key _ h3).1 (Nat.le_refl _)
  omega
theorem ykf {us:List Int} (hu:U64s us) (hl:us.length≤4096):Ev (fun k=>ybb.f k us) ((widS us:Nat):Int):=by
 have key:∀ n i a:Nat,i+n=us.length→a<2^64→Ev (fun k=>ybb.l0 k (a:Int) us (us.length:Int) (i:Int)) ((max (Lib.bitLen a) (widS (us.drop i)):Nat):Int):=by
  intro n
  induction n with
  | zero =>
   intro i a h ha
   refine Ev.step (fun k=>?_) (Ev.now _)
   rw[ybb.l0,if_neg (by omega),List.drop_eq_nil_of_le (by omega)]
   unfold bits_Len64.f
   rw[if_pos (by omega),if_pos (by omega),Option.bind_some,Int.toNat_natCast]
   simp [widS]
  | succ n ih =>
   intro i a h ha
   have hi:i<us.length:=by omega
   have hx:=hu us[i] (List.getElem_mem hi)
   have hrec:=ih (i+1) (a ||| us[i].toNat) (by omega) (Nat.or_lt_two_pow ha (by omega))
   rw[bitLen_or ha (by omega)] at hrec
   rw[List.drop_eq_getElem_cons hi]
   simp only[widS]
   rw[show max (Lib.bitLen a) (max (Lib.bitLen us[i].toNat) (widS (us.drop (i+1))))=max (max (Lib.bitLen a) (Lib.bitLen us[i].toNat)) (widS (us.drop (i+1))) by omega]
   refine Ev.step (fun k=>?_) hrec
   have:Go.bits .or .u64 (a:Int) us[i]=((a ||| us[i].toNat:Nat):Int):=by
    conv=>lhs;rw[← Int.toNat_of_nonneg hx.1]
    exact bits_or_u64_nat a us[i].toNat (by omega) (by omega)
   rw[ybb.l0,if_pos (by omega),if_pos (by omega),if_pos (by omega),ybj hi,w64s i (by omega),this]
 have:=key us.length 0 0 (by omega) (by decide)
 rw[show Lib.bitLen 0=0 from rfl,Nat.zero_max] at this
 exact this
theorem ymz {us:List Int} (hu:U64s us) (hl:us.length≤4096):Ev (fun k=>yal.f k us) ((widS us:Nat):Int):=by
 have key:∀ n i m:Nat,i+n=us.length→Ev (fun k=>yal.l0 k us (m:Int) (i:Int)) ((max m (widS (us.drop i)):Nat):Int):=by
  intro n
  induction n with
  | zero =>
   intro i m h
   refine Ev.step (fun k=>?_) (Ev.now _)
   rw[yal.l0,if_neg (by omega),List.drop_eq_nil_of_le (by omega)]
   simp [widS]
  | succ n ih =>
   intro i m h
   have hi:i<us.length:=by omega
   have hx:=hu us[i] (List.getElem_mem hi)
   have hrec:=ih (i+1) (max m (0+Lib.bitLen us[i].toNat)) (by omega)
   rw[List.drop_eq_getElem_cons hi]
   simp only[widS]
   rw[show max m (max (Lib.bitLen us[i].toNat) (widS (us.drop (i+1))))=max (max m (0+Lib.bitLen us[i].toNat)) (widS (us.drop (i+1))) by omega]
   refine Ev.step (g:=fun k=>yal.l1 k us (m:Int) (i:Int) ((0:Nat):Int) ((us[i].toNat:Nat):Int)) (fun k=>?_) (rw_in us 64 us[i].toNat 0 m i (by omega) (by omega) (by omega) _ ?_)
   ·rw[yal.l0,if_pos (by omega),if_pos (by omega),ybj hi,Int.toNat_of_nonneg hx.1]
    rfl
   ·rw[w64s i (by omega)]
    exact hrec
 have:=key us.length 0 0 (by omega)
 rw[Nat.zero_max] at this
 exact this
def toR (r:Int×Nat):S150:=⟨r.1,(r.2:Int)⟩
theorem push_last (rs:List (Int×Nat)) (v:Int):∃ r n,push rs v=r++[(v,n)]:=by
 unfold push
 cases h:rs.getLast? with
 | none=>exact⟨[],1,rfl⟩
 | some a =>
  obtain⟨u,n⟩:=a
  simp only
  split
  ·rename_i e;subst e;exact⟨_,_,rfl⟩
  ·exact⟨_,_,rfl⟩
theorem rle_last {vs:List Int} {i:Nat} (h:i<vs.length):∃ r n,rle (vs.take (i+1))=r++[(vs[i],n)]:=by
 rw[← ybd vs i h,yow]
 exact push_last _ _
theorem yor {α:Type} (r:List α) (a b:α):(r++[a]).set r.length b=r++[b]:=by
 rw[List.set_append_right _ _ (Nat.le_refl _),Nat.sub_self];rfl
theorem yo4 (r:List S150) (a:S150):yat (r++[a]) (r.length:Int)=a:=by
 unfold yat
 rw[Int.toNat_natCast,List.getD_eq_getElem?_getD,List.getElem?_append_right (Nat.le_refl _),Nat.sub_self]
 rfl
theorem wl (n:Nat) (h:n<4611686018427387904):wrap64 (((n+1:Nat):Int)-1)=(n:Int):=by rw[w64 (by omega) (by omega)];omega
theorem split_law (vs:List Int) (hl:vs.length≤4096):Ev (fun k=>ybl.f k vs) ((rle vs).map toR,0):=by
 have key:∀ n i:Nat,i+n=vs.length→Ev (fun k=>ybl.l0 k vs ((rle (vs.take i)).map toR) vs (vs.length:Int) (i:Int)) ((rle vs).map toR,0):=by
  intro n
  induction n with
  | zero =>
   intro i h
   refine Ev.step (fun k=>?_) (Ev.now _)
   rw[ybl.l0,if_neg (by omega),List.take_of_length_le (by omega)]
  | succ n ih =>
   intro i h
   have hi:i<vs.length:=by omega
   have hrl:=yh9 (vs.take i)
   rw[List.length_take] at hrl
   have hrec:=ih (i+1) (by omega)
   rw[← ybd vs i hi,yow] at hrec
   have fresh:∀ R:List (Int×Nat),R.length≤4096→push R vs[i]=R++[(vs[i],1)]→∀ k,(if (R.map toR).length<8796093022208 then ((some (R.map toR++[(⟨vs[i],0⟩:S150)])).bind fun y=>(if 0≤(wrap64 ((y.length:Int)-1)) then (if (wrap64 ((y.length:Int)-1))<(y.length:Int) then (ybl.l0 k vs (y.set ((wrap64 ((y.length:Int)-1)):Int).toNat (⟨(yat y (wrap64 ((y.length:Int)-1))).f0,wrap64 (((yat y (wrap64 ((y.length:Int)-1))).f1)+1)⟩:S150)) vs (vs.length:Int) (wrap64 ((i:Int)+1))) else (none)) else (none))) else (none))=ybl.l0 k vs ((push R vs[i]).map toR) vs (vs.length:Int) ((i+1:Nat):Int):=by
    intro R hR hp k
    have hml:(R.map toR).length=R.length:=List.length_map _
    rw[if_pos (by rw[hml];omega),Option.bind_some,List.length_append,hml,List.length_singleton,wl R.length (by omega),if_pos (by omega),if_pos (by omega),Int.toNat_natCast,← hml,yor,yo4,hp,List.map_append,w64s i (by omega),show wrap64 ((0:Int)+1)=1 from by unfold wrap64;decide]
    rfl
   by_cases h0:i=0
   ·subst h0
    refine Ev.step (fun k=>?_) hrec
    rw[ybl.l0,if_pos (by omega),if_pos (by omega),if_pos (by omega),if_pos (show((0:Nat):Int)=0 from rfl),ybj hi]
    exact fresh (rle (vs.take 0)) (by simp [rle]) rfl k
   ·obtain⟨j,rfl⟩:∃ j,i=j+1:=⟨i-1,by omega⟩
    obtain⟨r,m,hr⟩:=rle_last (vs:=vs) (i:=j) (by omega)
    have hm:=yks (vs:=vs.take (j+1)) (r:=(vs[j],m)) (by rw[hr];simp)
    rw[List.length_take] at hm
    rw[hr] at hrec hrl
    refine Ev.step (fun k=>?_) hrec
    rw[hr]
    rw[ybl.l0,if_pos (by omega),if_pos (by omega),if_pos (by omega),if_neg (by omega),ybj hi,wl j (by omega),if_pos (by omega),if_pos (by omega),ybj (show j<vs.length by omega)]
    by_cases he:vs[j+1]=vs[j]
    ·rw[if_pos he]
     have hml:((r++[(vs[j],m)]).map toR).length=(r.map toR).length+1:=by simp
     have hrr:(r.map toR).length≤4096:=by rw[List.length_append] at hrl;simp at hrl ⊢;omega
     rw[hml,wl _ (by omega),if_pos (by omega),if_pos (by omega),Int.toNat_natCast,List.map_append,List.map_singleton,yor,yo4,w64s (j+1) (by omega)]
     have hp:push (r++[(vs[j],m)]) vs[j+1]=r++[(vs[j],m+1)]:=by
      unfold push
      rw[List.getLast?_concat]
      simp only
      rw[if_pos he.symm,List.dropLast_concat]
     rw[hp,List.map_append,List.map_singleton]
     have e2:wrap64 ((toR (vs[j],m)).f1+1)=((m+1:Nat):Int):=w64s m (by omega)
     rw[e2]
     rfl
    ·rw[if_neg he]
     refine fresh (r++[(vs[j],m)]) (by omega) ?_ k
     unfold push
     rw[List.getLast?_concat]
     simp only
     rw[if_neg (fun e=>he e.symm)]
 unfold ybl.f
 refine Ev.same (fun k=>?_) (key vs.length 0 (by omega))
 rw[if_neg (by omega)]
 rfl
theorem ypc (r:Int×Nat):(runB r).length≤20:=by
 unfold runB
 have h1:=ybg (ydh r.1)
 have h2:=ybg r.2
 rw[List.length_append]
 omega
theorem yhn:∀ rs:List (Int×Nat),((rs.map runB).flatten).length≤20*rs.length
 | []=>by simp
 | r::rs=>by
  have h1:=ypc r
  have h2:=yhn rs
  rw[List.map_cons,List.flatten_cons,List.length_append,List.length_cons]
  omega
theorem rdr_at {rs:List (Int×Nat)} {i:Nat} (h:i<rs.length):yat (rs.map toR) (i:Int)=toR rs[i]:=by
 unfold yat
 rw[Int.toNat_natCast,List.getD_eq_getElem?_getD,List.getElem?_map,List.getElem?_eq_getElem h]
 rfl
theorem pruns_ev (vs:List Int) (hl:vs.length≤4096) (hi:∀ v∈vs,I64 v):Ev (fun k=>yct.f k vs) (ye9 vs):=by
 have hrl:=yh9 vs
 have hB:=yhn (rle vs)
 unfold ye9 yct.f
 rw[if_pos hl]
 refine Ev.bind (split_law vs hl) ?_
 simp only[if_true,List.length_map]
 rw[wraps_u64 _ (by omega) (by omega)]
 refine Ev.bind (yh1 _ (by omega)) ?_
 have hv:=ybg (rle vs).length
 have key:∀ n i:Nat,i+n=(rle vs).length→Ev (fun k=>yct.l0 k (vput (rle vs).length++(((rle vs).take i).map runB).flatten) ((rle vs).map toR) ((rle vs).length:Int) (i:Int)) (vput (rle vs).length++((rle vs).map runB).flatten,0):=by
  intro n
  induction n with
  | zero =>
   intro i h
   refine Ev.step (fun k=>?_) (Ev.now _)
   rw[yct.l0,if_neg (by omega),List.take_of_length_le (by omega)]
  | succ n ih =>
   intro i h
   have hi2:i<(rle vs).length:=by omega
   have hm:=yks (List.getElem_mem hi2)
   have hI:=hi _ hm.1
   have hB2:=yhn ((rle vs).take i)
   rw[List.length_take] at hB2
   have h1:=ybg (ydh (rle vs)[i].1)
   have h2:=ybg (rle vs)[i].2
   have hrec:=ih (i+1) (by omega)
   rw[← ybd _ i hi2,List.map_append,List.flatten_append] at hrec
   simp only[List.map_cons,List.map_nil,List.flatten_cons,List.flatten_nil,List.append_nil] at hrec
   rw[show runB (rle vs)[i]=vput (ydh (rle vs)[i].1)++vput (rle vs)[i].2 from rfl,← List.append_assoc,← List.append_assoc] at hrec
   have hlen:(vput (rle vs).length++(((rle vs).take i).map runB).flatten).length≤200000:=by rw[List.length_append];omega
   refine Ev.step (g:=fun k=>(ya0.f k ((ydh (rle vs)[i].1:Nat):Int)).bind fun t=>if (vput (rle vs).length++(((rle vs).take i).map runB).flatten).length+t.length<140737488355328 then (some (vput (rle vs).length++(((rle vs).take i).map runB).flatten++t)).bind fun y=>(ya0.f k (((rle vs)[i].2:Nat):Int)).bind fun t2=>if y.length+t2.length<140737488355328 then yct.l0 k (y++t2) ((rle vs).map toR) ((rle vs).length:Int) ((i+1:Nat):Int) else none else none) (fun k=>?_) (Ev.bind (yh1 _ (ygc hI)) ?_)
   ·rw[yct.l0,if_pos (by omega),if_pos (by omega),if_pos (by rw[List.length_map];omega),rdr_at hi2,w64s i (by omega)]
    unfold toR
    simp only
    rw[ylf hI,Option.bind_some,wraps_u64 _ (by omega) (by omega)]
   ·refine Ev.same (g:=fun k=>(ya0.f k (((rle vs)[i].2:Nat):Int)).bind fun t2=>if (vput (rle vs).length++(((rle vs).take i).map runB).flatten++vput (ydh (rle vs)[i].1)).length+t2.length<140737488355328 then yct.l0 k (vput (rle vs).length++(((rle vs).take i).map runB).flatten++vput (ydh (rle vs)[i].1)++t2) ((rle vs).map toR) ((rle vs).length:Int) ((i+1:Nat):Int) else none) (fun k=>by rw[if_pos (by omega),Option.bind_some]) (Ev.bind (yh1 (rle vs)[i].2 (by omega)) ?_)
    refine Ev.same (fun k=>by rw[if_pos (by rw[List.length_append];omega)]) hrec
 have:=key (rle vs).length 0 (by omega)
 simpa using this
theorem u64_dist {a b:Int} (ha:I64 a) (hb:I64 b) (h:b≤a):IntKind.u64.wrap (IntKind.u64.wrap a-IntKind.u64.wrap b)=a-b:=by
 obtain⟨h1,h2⟩:=ha
 obtain⟨h3,h4⟩:=hb
 rw[IntKind.wrap_u64,IntKind.wrap_u64,IntKind.wrap_u64]
 omega
theorem yjl:∀ (a b:List Int) (i:Nat),(∀ j,(h1:j<i)→∀ (ha:j<a.length) (hb:j<b.length),a[j]=b[j])→i≤a.length→i≤b.length→yb4 a b=i+yb4 (a.drop i) (b.drop i)
 | a,b,0,_,_,_=>by simp
 | [],b,i+1,_,h,_=>by simp at h
 | a,[],i+1,_,_,h=>by simp at h
 | x::a,y::b,i+1,h,h1,h2=>by
  have e:=h 0 (by omega) (by simp) (by simp)
  simp at e
  have:=yjl a b i (fun j hj ha hb=>by have:=h (j+1) (by omega) (by simp;omega) (by simp;omega);simpa using this) (by simpa using h1) (by simpa using h2)
  simp only[yb4,List.drop_succ_cons]
  rw[if_pos e,this]
  omega
theorem same11_ev (a b:List Int) (hl:a.length≤140737488355328):Ev (fun k=>ybo.f k a b) ((yb4 a b:Nat):Int):=by
 have key:∀ n i:Nat,i+n=a.length→i≤b.length→(∀ j,(h1:j<i)→∀ (ha:j<a.length) (hb:j<b.length),a[j]=b[j])→Ev (fun k=>ybo.l0 k a b (i:Int)) ((yb4 a b:Nat):Int):=by
  intro n
  induction n with
  | zero =>
   intro i h hb hj
   have:=yjl a b i hj (by omega) hb
   rw[List.drop_eq_nil_of_le (show a.length≤i by omega)] at this
   refine Ev.step (fun k=>?_) (Ev.now _)
   rw[ybo.l0,if_neg (by omega),this,show yb4 [] (b.drop i)=0 by cases b.drop i <;> rfl]
   congr 1
   omega
  | succ n ih =>
   intro i h hb hj
   have hi:i<a.length:=by omega
   have hs:=yjl a b i hj (by omega) hb
   rw[List.drop_eq_getElem_cons hi] at hs
   by_cases hib:i<b.length
   ·rw[List.drop_eq_getElem_cons hib] at hs
    simp only[yb4] at hs
    by_cases he:a[i]=b[i]
    ·refine Ev.step (fun k=>?_) (ih (i+1) (by omega) (by omega) (fun j hj1 ha hb2=>?_))
     ·rw[ybo.l0,if_pos (by omega),if_neg (by omega),if_pos (by omega),if_pos (by omega),ybj hi,ybj hib,if_pos he,w64s i (by omega)]
     ·by_cases e:j=i
      ·subst e;exact he
      ·exact hj j (by omega) ha hb2
    ·rw[if_neg he] at hs
     refine Ev.step (fun k=>?_) (Ev.now _)
     rw[ybo.l0,if_pos (by omega),if_neg (by omega),if_pos (by omega),if_pos (by omega),ybj hi,ybj hib,if_neg he,hs]
     rfl
   ·rw[List.drop_eq_nil_of_le (show b.length≤i by omega)] at hs
    simp only[yb4] at hs
    refine Ev.step (fun k=>?_) (Ev.now _)
    rw[ybo.l0,if_pos (by omega),if_pos (by omega),hs]
    rfl
 exact key a.length 0 (by omega) (by omega) (fun j h=>by omega)
theorem ynv {last s:List Int} {whole:Bool} (h:s.length≤200):(yfz last s whole).length≤220:=by
 unfold yfz
 have h1:=ybg (preK last s whole)
 have h2:=ybg (s.length-preK last s whole)
 simp only[List.length_append,List.length_drop]
 omega
theorem yij (last s:List Int):∀ (ss:List (List Int)) (x:List Int) (i:Nat),yc5 (i+1) x (ss++[s])=yc5 (i+1) x ss++yfz ((x::ss).getLast?.getD last) s (decide ((i+(x::ss).length)%16=0))
 | [],x,i=>by simp [yc5]
 | y::ss,x,i=>by
  rw[List.cons_append]
  simp only[yc5]
  rw[yij last s ss y (i+1),List.append_assoc]
  have e:i+1+(y::ss).length=i+(x::y::ss).length:=by simp only[List.length_cons];omega
  rw[e]
  simp
theorem yn5 (last s:List Int):∀ (ss:List (List Int)) (i:Nat),yc5 i last (ss++[s])=yc5 i last ss++yfz (ss.getLast?.getD last) s (decide ((i+ss.length)%16=0))
 | [],i=>by simp [yc5]
 | x::ss,i=>by
  rw[List.cons_append]
  simp only[yc5]
  rw[yij last s ss x i,List.append_assoc]
theorem yhq:∀ (ss:List (List Int)) (i:Nat) (last:List Int),(∀ s∈ss,s.length≤200)→(yc5 i last ss).length≤220*ss.length
 | [],_,_,_=>by simp [yc5]
 | s::ss,i,last,h=>by
  have h1:=ynv (last:=last) (whole:=decide (i%16=0)) (h s (by simp))
  have h2:=yhq ss (i+1) s (fun x hx=>h x (by simp [hx]))
  simp only[yc5]
  rw[List.length_append,List.length_cons]
  omega
structure Fine (kind:Int) (cs:List Cel):Prop where
 good:yd6 kind
 len:cs.length≤4096
 chk:∀ c∈cs,ydu kind c=0
 ok:∀ c∈cs,yf0 c
theorem Fine.plainly {kind:Int} {cs:List Cel} (h:Fine kind cs):∀ c∈yde cs,yda kind c:=fun c hc=>yjj (h.chk c (yer.1 hc).1) (h.ok c (yer.1 hc).1) (yer.1 hc).2
theorem Fine.nums {kind:Int} {cs:List Cel} (h:Fine kind cs):(ydc cs).length≤4096∧∀ v∈ydc cs,I64 v:=by
 refine⟨?_,fun v hv=>?_⟩
 ·unfold ydc
  rw[List.length_map]
  exact Nat.le_trans (List.length_filter_le _ _) h.len
 ·obtain⟨c,hc,rfl⟩:=List.mem_map.1 hv
  exact(h.ok c (yer.1 hc).1).1
theorem Fine.texts {kind:Int} {cs:List Cel} (h:Fine kind cs):(yb2 cs).length≤4096∧∀ s∈yb2 cs,Bys s:=by
 refine⟨?_,fun v hv=>?_⟩
 ·unfold yb2
  rw[List.length_map]
  exact Nat.le_trans (List.length_filter_le _ _) h.len
 ·obtain⟨c,hc,rfl⟩:=List.mem_map.1 hv
  exact(h.ok c (yer.1 hc).1).2.1
theorem Fine.short {kind:Int} {cs:List Cel} (h:Fine kind cs) (hk:6<kind):∀ s∈yb2 cs,s.length≤200:=by
 intro v hv
 obtain⟨c,hc,rfl⟩:=List.mem_map.1 hv
 have:=h.plainly c hc
 unfold yda at this
 rw[if_neg (by omega)] at this
 exact this.2
theorem Bys.nil:Bys []:=fun x hx=>(by cases hx)
theorem Bys.one {x:Int} (h:0≤x∧x<256):Bys [x]:=fun y hy=>by rw[List.mem_singleton.1 hy];exact h
theorem Bys.flat {α:Type} {f:α→List Int}:∀ {l:List α},(∀ a∈l,Bys (f a))→Bys ((l.map f).flatten)
 | [],_=>Bys.nil
 | a::l,h=>by
  rw[List.map_cons,List.flatten_cons]
  exact(h a (by simp)).append (Bys.flat (fun b hb=>h b (by simp [hb])))
theorem ypj {vs:List Int} (hl:vs.length≤4096) (hi:∀ v∈vs,I64 v):Bys (ye9 vs).1∧(ye9 vs).1.length≤100000:=by
 have h1:=yh9 vs
 have h2:=yhn (rle vs)
 have h3:=ybg (rle vs).length
 unfold ye9
 rw[if_pos hl]
 refine⟨(yep _ (by omega)).append (Bys.flat fun r hr=>?_),by simp only[List.length_append];omega⟩
 have:=yks hr
 exact(yep _ (ygc (hi _ this.1))).append (yep _ (by omega))
theorem encPk_bys {vs:List Int} (hl:vs.length≤4096) (hi:∀ v∈vs,I64 v):Bys (yf2 vs).1∧(yf2 vs).1.length≤100000:=by
 unfold yf2
 rw[if_neg (by omega)]
 by_cases h0:vs.length=0
 ·rw[if_pos h0]
  exact⟨yep 0 (by decide),by have:=ybg 0;simp only;omega⟩
 rw[if_neg h0]
 have hne:vs≠[]:=fun e=>h0 (by rw[e];rfl)
 have hu:=ylm hi
 have hw:=ykv hu
 have h1:=ybg vs.length
 have h2:=ybg (ydh (yd7 vs))
 have h3:=ygo (widS (farS vs)) (farS vs) hw (by simp [farS];omega)
 refine⟨(((yep _ (by omega)).append (yep _ (ygc (hi _ (ygh hne))))).append (Bys.one (by omega))).append (yki _ _),by simp only[List.length_append,List.length_singleton];omega⟩
theorem encS_bys {ss:List (List Int)} (hl:ss.length≤4096) (hs:∀ s∈ss,s.length≤200) (hb:∀ s∈ss,Bys s):Bys (encS ss).1∧(encS ss).1.length≤1000000:=by
 have hid:(idx ss).2.2=0:=by
  unfold idx
  rw[if_neg]
  rintro(h|⟨s,h1,h⟩)
  ·omega
  ·have:=hs s h1;omega
 obtain⟨_,_,h3,h4⟩:=ymg hid
 have hel:=yg5 ss
 have h5:=yi9 (ents ss) (fun s h=>hs s (yd0.1 h))
 have h6:=ybg (ents ss).length
 have h7:=ybg (idx ss).2.1.length
 have h8:=ygo (wid (ents ss).length) (idx ss).2.1 (by have:=yjc (ents ss).length (by omega);omega) (by rw[h4,List.length_map];exact hl)
 have h9:(idx ss).2.1.length=ss.length:=by rw[h4,List.length_map]
 unfold encS
 rw[if_pos hid]
 unfold encB
 rw[h3]
 refine⟨(((yep _ (by omega)).append (Bys.flat fun s h=>?_)).append (yep _ (by omega))).append (yki _ _),by simp only[List.length_append];omega⟩
 have h10:=hs s (yd0.1 h)
 exact(yep _ (by omega)).append (hb s (yd0.1 h))
theorem yk6:∀ (ss:List (List Int)) (i:Nat) (last:List Int),(∀ s∈ss,s.length≤200)→(∀ s∈ss,Bys s)→Bys (yc5 i last ss)
 | [],_,_,_,_=>Bys.nil
 | s::ss,i,last,hs,hb=>by
  simp only[yc5]
  refine Bys.append ?_ (yk6 ss (i+1) s (fun x hx=>hs x (by simp [hx])) (fun x hx=>hb x (by simp [hx])))
  have h1:=hs s (by simp)
  have hk:preK last s (decide (i%16=0))≤s.length:=by
   unfold preK
   split
   ·omega
   ·exact(yhg last s).2.1
  exact((yep _ (by omega)).append (yep _ (by omega))).append ((hb s (by simp)).drop _)
theorem yq0 {ss:List (List Int)} (hl:ss.length≤4096) (hs:∀ s∈ss,s.length≤200) (hb:∀ s∈ss,Bys s):Bys (ye5 ss).1∧(ye5 ss).1.length≤1000000:=by
 have h1:=yhq ss 0 [] hs
 have h2:=ybg ss.length
 unfold ye5
 rw[if_neg (by rintro(h|⟨s,h1,h2⟩);omega;have:=hs s h1;omega)]
 exact⟨(yep _ (by omega)).append (yk6 ss 0 [] hs hb),by simp only[List.length_append];omega⟩
theorem yq4 {kind:Int} {c:Cel} (h:yda kind c) (ok:yf0 c):Bys (yei kind c):=by
 unfold yei yda at *
 split
 ·rename_i hk
  rw[if_pos hk] at h
  exact yep _ (ygc h.2)
 ·rename_i hk
  rw[if_neg hk] at h
  have:=h.2
  exact(yep _ (by omega)).append ok.2.1
theorem body_fine {kind codec:Int} {cs:List Cel} (h:Fine kind cs) (hf:ycz kind codec):Bys (ydk kind codec cs).1∧(ydk kind codec cs).1.length≤1000000∧(ydk kind codec cs).2=0:=by
 have h2:=(ynj hf h.len h.plainly).1
 refine(fun(x:Bys (ydk kind codec cs).1∧(ydk kind codec cs).1.length≤1000000)=>⟨x.1,x.2,h2⟩) ?_
 have htl:(yde cs).length≤cs.length:=List.length_filter_le _ _
 have hl:=h.len
 unfold ydk
 by_cases e2:codec=2
 ·rw[if_pos e2]
  have:=ypj h.nums.1 h.nums.2
  exact⟨this.1,by omega⟩
 rw[if_neg e2]
 by_cases e3:codec=3
 ·rw[if_pos e3]
  have:=encPk_bys h.nums.1 h.nums.2
  exact⟨this.1,by omega⟩
 rw[if_neg e3]
 by_cases e4:codec=4
 ·rw[if_pos e4]
  exact encS_bys h.texts.1 (h.short (by unfold ycz at hf;omega)) h.texts.2
 rw[if_neg e4]
 by_cases e5:codec=5
 ·rw[if_pos e5]
  exact yq0 h.texts.1 (h.short (by unfold ycz at hf;omega)) h.texts.2
 rw[if_neg e5]
 have h3:=yh4 h.plainly
 refine⟨Bys.flat fun c hc=>yq4 (h.plainly c hc) (h.ok c (yer.1 hc).1),?_⟩
 show(ydv kind cs).length≤_
 unfold ydv
 omega
theorem ypy {cs:List Cel} (hl:cs.length≤4096):Bys (ye6 cs)∧(ye6 cs).length≤50000:=by
 have:=ygo 1 (cs.map yc8) (by decide) (by rw[List.length_map];exact hl)
 unfold ye6
 split
 ·exact⟨(Bys.one (by decide)).append (yki _ _),by rw[List.length_cons];omega⟩
 ·exact⟨Bys.one (by decide),by decide⟩
theorem yls {kind codec:Int} (h:ycz kind codec):1≤codec∧codec≤5:=by unfold ycz at h;omega
theorem head_fine {kind codec:Int} {cs:List Cel} (hl:cs.length≤4096) (hf:ycz kind codec):Bys (ye7 codec cs)∧(ye7 codec cs).length≤60000:=by
 have h1:=yls hf
 have h2:=ypy hl
 have h3:=ybg cs.length
 unfold ye7
 exact⟨(Bys.one (by omega)).append ((yep _ (by omega)).append h2.1),by simp only[List.length_cons,List.length_append];omega⟩
theorem fine_of {kind:Int} {cs:List Cel} (hk:¬ (kind<1∨8<kind)) (hc:yc0 kind cs=0) (hok:∀ c∈cs,yf0 c):Fine kind cs:=⟨⟨by omega,by omega⟩,(yhm.1 hc).1,(yhm.1 hc).2,hok⟩
end Go.Proofs.YteeikgjjgfdjgaaGreat.PK
end
