/-
  Parts of the proof: Cs, Ct.
-/
import Derived.Test.YteeikgjjgfdjgaaGreatU18
import Derived.Test.YteeikgjjgfdjgaaGreatU22
section
namespace Go.Proofs.YteeikgjjgfdjgaaGreat.PK
open Go.RowKit YteeikgjjgfdjgaaGreatW.PrintWords YteeikgjjgfdjgaaGreatW.PrintLast YteeikgjjgfdjgaaGreatW.PrintMore
set_option linter.unusedVariables false
set_option linter.unusedSimpArgs false
theorem bitLen_or {a b:Nat} (ha:a<2^64) (hb:b<2^64):Lib.bitLen (a ||| b)=max (Lib.bitLen a) (Lib.bitLen b):=by
 have hab:a ||| b<2^64:=Nat.or_lt_two_pow ha hb
 have h1:=yjv ha
 have h2:=yjv hb
 have key:∀ w,w≤64→(Lib.bitLen (a ||| b)≤w↔Lib.bitLen a≤w∧Lib.bitLen b≤w):=by
  intro w hw
  rw[yh5 hab hw,yh5 ha hw,yh5 hb hw]
  exact⟨fun h=>⟨Nat.lt_of_le_of_lt Nat.left_le_or h,Nat.lt_of_le_of_lt Nat.right_le_or h⟩,fun h=>Nat.or_lt_two_pow h.1 h.2⟩
 have h3:=yjv hab
 apply Nat.le_antisymm
 ·exact(key _ (by omega)).2 ⟨by omega,by omega⟩
 ·have:=(key _ h3).1 (Nat.le_refl _)
  omega
theorem yk2 {us:List Int} (hu:U64s us) (hl:us.length≤4096):Ev (fun k=>ybh.f k us) ((widS us:Nat):Int):=by
 have key:∀ n i a:Nat,i+n=us.length→a<2^64→Ev (fun k=>ybh.l0 k (a:Int) us (us.length:Int) (i:Int)) ((max (Lib.bitLen a) (widS (us.drop i)):Nat):Int):=by
  intro n
  induction n with
  | zero =>
   intro i a h ha
   refine Ev.step (fun k=>?_) (Ev.now _)
   rw[ybh.l0,if_neg (by omega),List.drop_eq_nil_of_le (by omega)]
   unfold bits_Len64.f
   rw[if_pos (by omega),if_pos (by omega),Option.bind_some,Int.toNat_natCast]
   simp [widS]
  | succ n ih =>
   intro i a h ha
   have hi:i<us.length:=by omega
   have hx:=hu us[i] (List.getElem_mem hi)
   have hrec:=ih (i+1) (a ||| us[i].toNat) (by omega) (Nat.or_lt_two_pow ha (by omega))
   rw[bitLen_or ha (by omega)] at hrec
   rw[List.drop_eq_getElem_cons hi]
   simp only[widS]
   rw[show max (Lib.bitLen a) (max (Lib.bitLen us[i].toNat) (widS (us.drop (i+1))))=max (max (Lib.bitLen a) (Lib.bitLen us[i].toNat)) (widS (us.drop (i+1))) by omega]
   refine Ev.step (fun k=>?_) hrec
   have:Go.bits .or .u64 (a:Int) us[i]=((a ||| us[i].toNat:Nat):Int):=by
    conv=>lhs;rw[← Int.toNat_of_nonneg hx.1]
    exact bits_or_u64_nat a us[i].toNat (by omega) (by omega)
   rw[ybh.l0,if_pos (by omega),if_pos (by omega),if_pos (by omega),yb3 hi,w64s i (by omega),this]
 have:=key us.length 0 0 (by omega) (by decide)
 rw[show Lib.bitLen 0=0 from rfl,Nat.zero_max] at this
 exact this
theorem rwidth_ev {us:List Int} (hu:U64s us) (hl:us.length≤4096):Ev (fun k=>yao.f k us) ((widS us:Nat):Int):=by
 have key:∀ n i m:Nat,i+n=us.length→Ev (fun k=>yao.l0 k us (m:Int) (i:Int)) ((max m (widS (us.drop i)):Nat):Int):=by
  intro n
  induction n with
  | zero =>
   intro i m h
   refine Ev.step (fun k=>?_) (Ev.now _)
   rw[yao.l0,if_neg (by omega),List.drop_eq_nil_of_le (by omega)]
   simp [widS]
  | succ n ih =>
   intro i m h
   have hi:i<us.length:=by omega
   have hx:=hu us[i] (List.getElem_mem hi)
   have hrec:=ih (i+1) (max m (0+Lib.bitLen us[i].toNat)) (by omega)
   rw[List.drop_eq_getElem_cons hi]
   simp only[widS]
   rw[show max m (max (Lib.bitLen us[i].toNat) (widS (us.drop (i+1))))=max (max m (0+Lib.bitLen us[i].toNat)) (widS (us.drop (i+1))) by omega]
   refine Ev.step (g:=fun k=>yao.l1 k us (m:Int) (i:Int) ((0:Nat):Int) ((us[i].toNat:Nat):Int)) (fun k=>?_) (rw_in us 64 us[i].toNat 0 m i (by omega) (by omega) (by omega) _ ?_)
   ·rw[yao.l0,if_pos (by omega),if_pos (by omega),yb3 hi,Int.toNat_of_nonneg hx.1]
    rfl
   ·rw[w64s i (by omega)]
    exact hrec
 have:=key us.length 0 0 (by omega)
 rw[Nat.zero_max] at this
 exact this
def toR (r:Int×Nat):S150:=⟨r.1,(r.2:Int)⟩
theorem push_last (rs:List (Int×Nat)) (v:Int):∃ r n,push rs v=r++[(v,n)]:=by
 unfold push
 cases h:rs.getLast? with
 | none=>exact⟨[],1,rfl⟩
 | some a =>
  obtain⟨u,n⟩:=a
  simp only
  split
  ·rename_i e;subst e;exact⟨_,_,rfl⟩
  ·exact⟨_,_,rfl⟩
theorem rle_last {vs:List Int} {i:Nat} (h:i<vs.length):∃ r n,rle (vs.take (i+1))=r++[(vs[i],n)]:=by
 rw[← ybc vs i h,yo6]
 exact push_last _ _
theorem yon {α:Type} (r:List α) (a b:α):(r++[a]).set r.length b=r++[b]:=by
 rw[List.set_append_right _ _ (Nat.le_refl _),Nat.sub_self];rfl
theorem ypa (r:List S150) (a:S150):yax (r++[a]) (r.length:Int)=a:=by
 unfold yax
 rw[Int.toNat_natCast,List.getD_eq_getElem?_getD,List.getElem?_append_right (Nat.le_refl _),Nat.sub_self]
 rfl
theorem wl (n:Nat) (h:n<4611686018427387904):wrap64 (((n+1:Nat):Int)-1)=(n:Int):=by rw[w64 (by omega) (by omega)];omega
theorem split_law (vs:List Int) (hl:vs.length≤4096):Ev (fun k=>ybn.f k vs) ((rle vs).map toR,0):=by
 have key:∀ n i:Nat,i+n=vs.length→Ev (fun k=>ybn.l0 k vs ((rle (vs.take i)).map toR) vs (vs.length:Int) (i:Int)) ((rle vs).map toR,0):=by
  intro n
  induction n with
  | zero =>
   intro i h
   refine Ev.step (fun k=>?_) (Ev.now _)
   rw[ybn.l0,if_neg (by omega),List.take_of_length_le (by omega)]
  | succ n ih =>
   intro i h
   have hi:i<vs.length:=by omega
   have hrl:=yf8 (vs.take i)
   rw[List.length_take] at hrl
   have hrec:=ih (i+1) (by omega)
   rw[← ybc vs i hi,yo6] at hrec
   have fresh:∀ R:List (Int×Nat),R.length≤4096→push R vs[i]=R++[(vs[i],1)]→∀ k,(if (R.map toR).length<8796093022208 then ((some (R.map toR++[(⟨vs[i],0⟩:S150)])).bind fun y=>(if 0≤(wrap64 ((y.length:Int)-1)) then (if (wrap64 ((y.length:Int)-1))<(y.length:Int) then (ybn.l0 k vs (y.set ((wrap64 ((y.length:Int)-1)):Int).toNat (⟨(yax y (wrap64 ((y.length:Int)-1))).f0,wrap64 (((yax y (wrap64 ((y.length:Int)-1))).f1)+1)⟩:S150)) vs (vs.length:Int) (wrap64 ((i:Int)+1))) else (none)) else (none))) else (none))=ybn.l0 k vs ((push R vs[i]).map toR) vs (vs.length:Int) ((i+1:Nat):Int):=by
    intro R hR hp k
    have hml:(R.map toR).length=R.length:=List.length_map _
    rw[if_pos (by rw[hml];omega),Option.bind_some,List.length_append,hml,List.length_singleton,wl R.length (by omega),if_pos (by omega),if_pos (by omega),Int.toNat_natCast,← hml,yon,ypa,hp,List.map_append,w64s i (by omega),show wrap64 ((0:Int)+1)=1 from by unfold wrap64;decide]
    rfl
   by_cases h0:i=0
   ·subst h0
    refine Ev.step (fun k=>?_) hrec
    rw[ybn.l0,if_pos (by omega),if_pos (by omega),if_pos (by omega),if_pos (show((0:Nat):Int)=0 from rfl),yb3 hi]
    exact fresh (rle (vs.take 0)) (by simp [rle]) rfl k
   ·obtain⟨j,rfl⟩:∃ j,i=j+1:=⟨i-1,by omega⟩
    obtain⟨r,m,hr⟩:=rle_last (vs:=vs) (i:=j) (by omega)
    have hm:=yja (vs:=vs.take (j+1)) (r:=(vs[j],m)) (by rw[hr];simp)
    rw[List.length_take] at hm
    rw[hr] at hrec hrl
    refine Ev.step (fun k=>?_) hrec
    rw[hr]
    rw[ybn.l0,if_pos (by omega),if_pos (by omega),if_pos (by omega),if_neg (by omega),yb3 hi,wl j (by omega),if_pos (by omega),if_pos (by omega),yb3 (show j<vs.length by omega)]
    by_cases he:vs[j+1]=vs[j]
    ·rw[if_pos he]
     have hml:((r++[(vs[j],m)]).map toR).length=(r.map toR).length+1:=by simp
     have hrr:(r.map toR).length≤4096:=by rw[List.length_append] at hrl;simp at hrl ⊢;omega
     rw[hml,wl _ (by omega),if_pos (by omega),if_pos (by omega),Int.toNat_natCast,List.map_append,List.map_singleton,yon,ypa,w64s (j+1) (by omega)]
     have hp:push (r++[(vs[j],m)]) vs[j+1]=r++[(vs[j],m+1)]:=by
      unfold push
      rw[List.getLast?_concat]
      simp only
      rw[if_pos he.symm,List.dropLast_concat]
     rw[hp,List.map_append,List.map_singleton]
     have e2:wrap64 ((toR (vs[j],m)).f1+1)=((m+1:Nat):Int):=w64s m (by omega)
     rw[e2]
     rfl
    ·rw[if_neg he]
     refine fresh (r++[(vs[j],m)]) (by omega) ?_ k
     unfold push
     rw[List.getLast?_concat]
     simp only
     rw[if_neg (fun e=>he e.symm)]
 unfold ybn.f
 refine Ev.same (fun k=>?_) (key vs.length 0 (by omega))
 rw[if_neg (by omega)]
 rfl
theorem ypx (r:Int×Nat):(runB r).length≤20:=by
 unfold runB
 have h1:=ya5 (ycg r.1)
 have h2:=ya5 r.2
 rw[List.length_append]
 omega
theorem yfz:∀ rs:List (Int×Nat),((rs.map runB).flatten).length≤20*rs.length
 | []=>by simp
 | r::rs=>by
  have h1:=ypx r
  have h2:=yfz rs
  rw[List.map_cons,List.flatten_cons,List.length_append,List.length_cons]
  omega
theorem rdr_at {rs:List (Int×Nat)} {i:Nat} (h:i<rs.length):yax (rs.map toR) (i:Int)=toR rs[i]:=by
 unfold yax
 rw[Int.toNat_natCast,List.getD_eq_getElem?_getD,List.getElem?_map,List.getElem?_eq_getElem h]
 rfl
theorem pruns_ev (vs:List Int) (hl:vs.length≤4096) (hi:∀ v∈vs,I64 v):Ev (fun k=>ycr.f k vs) (yeg vs):=by
 have hrl:=yf8 vs
 have hB:=yfz (rle vs)
 unfold yeg ycr.f
 rw[if_pos hl]
 refine Ev.bind (split_law vs hl) ?_
 simp only[if_true,List.length_map]
 rw[wraps_u64 _ (by omega) (by omega)]
 refine Ev.bind (yhy _ (by omega)) ?_
 have hv:=ya5 (rle vs).length
 have key:∀ n i:Nat,i+n=(rle vs).length→Ev (fun k=>ycr.l0 k (vput (rle vs).length++(((rle vs).take i).map runB).flatten) ((rle vs).map toR) ((rle vs).length:Int) (i:Int)) (vput (rle vs).length++((rle vs).map runB).flatten,0):=by
  intro n
  induction n with
  | zero =>
   intro i h
   refine Ev.step (fun k=>?_) (Ev.now _)
   rw[ycr.l0,if_neg (by omega),List.take_of_length_le (by omega)]
  | succ n ih =>
   intro i h
   have hi2:i<(rle vs).length:=by omega
   have hm:=yja (List.getElem_mem hi2)
   have hI:=hi _ hm.1
   have hB2:=yfz ((rle vs).take i)
   rw[List.length_take] at hB2
   have h1:=ya5 (ycg (rle vs)[i].1)
   have h2:=ya5 (rle vs)[i].2
   have hrec:=ih (i+1) (by omega)
   rw[← ybc _ i hi2,List.map_append,List.flatten_append] at hrec
   simp only[List.map_cons,List.map_nil,List.flatten_cons,List.flatten_nil,List.append_nil] at hrec
   rw[show runB (rle vs)[i]=vput (ycg (rle vs)[i].1)++vput (rle vs)[i].2 from rfl,← List.append_assoc,← List.append_assoc] at hrec
   have hlen:(vput (rle vs).length++(((rle vs).take i).map runB).flatten).length≤200000:=by rw[List.length_append];omega
   refine Ev.step (g:=fun k=>(ya3.f k ((ycg (rle vs)[i].1:Nat):Int)).bind fun t=>if (vput (rle vs).length++(((rle vs).take i).map runB).flatten).length+t.length<140737488355328 then (some (vput (rle vs).length++(((rle vs).take i).map runB).flatten++t)).bind fun y=>(ya3.f k (((rle vs)[i].2:Nat):Int)).bind fun t2=>if y.length+t2.length<140737488355328 then ycr.l0 k (y++t2) ((rle vs).map toR) ((rle vs).length:Int) ((i+1:Nat):Int) else none else none) (fun k=>?_) (Ev.bind (yhy _ (yfd hI)) ?_)
   ·rw[ycr.l0,if_pos (by omega),if_pos (by omega),if_pos (by rw[List.length_map];omega),rdr_at hi2,w64s i (by omega)]
    unfold toR
    simp only
    rw[yl5 hI,Option.bind_some,wraps_u64 _ (by omega) (by omega)]
   ·refine Ev.same (g:=fun k=>(ya3.f k (((rle vs)[i].2:Nat):Int)).bind fun t2=>if (vput (rle vs).length++(((rle vs).take i).map runB).flatten++vput (ycg (rle vs)[i].1)).length+t2.length<140737488355328 then ycr.l0 k (vput (rle vs).length++(((rle vs).take i).map runB).flatten++vput (ycg (rle vs)[i].1)++t2) ((rle vs).map toR) ((rle vs).length:Int) ((i+1:Nat):Int) else none) (fun k=>by rw[if_pos (by omega),Option.bind_some]) (Ev.bind (yhy (rle vs)[i].2 (by omega)) ?_)
    refine Ev.same (fun k=>by rw[if_pos (by rw[List.length_append];omega)]) hrec
 have:=key (rle vs).length 0 (by omega)
 simpa using this
theorem rsplit_ev (vs:List Int) (hl:vs.length≤4096):Ev (fun k=>ya1.f k vs) ((rle vs).map toR,0):=by
 have inner:∀ (m i n:Nat) (A:List (Int×Nat)),i+n+m=vs.length→0<n→(hi:i<vs.length)→vs.drop i=List.replicate n vs[i]++vs.drop (i+n)→A++rle (vs.drop i)=rle vs →
   (∀ (i':Nat) (A':List (Int×Nat)),i<i'→i'≤vs.length→A'++rle (vs.drop i')=rle vs→Ev (fun k=>ya1.l0 k vs (A'.map toR) (i':Int)) ((rle vs).map toR,0)) →
   Ev (fun k=>ya1.l1 k vs (A.map toR) (i:Int) (n:Int)) ((rle vs).map toR,0):=by
  intro m
  induction m with
  | zero =>
   intro i n A h hn hi hd hA hout
   have hAl:A.length≤4096:=by
    have:=congrArg List.length hA
    have h2:=yf8 vs
    rw[List.length_append] at this
    omega
   have hrep:rle (vs.drop i)=(vs[i],n)::rle (vs.drop (i+n)):=by
    rw[hd]
    exact yg3 hn (fun u m r e=>by rw[List.drop_eq_nil_of_le (by omega)] at e;simp [rle] at e)
   refine Ev.step (fun k=>?_) (hout (i+n) (A++[(vs[i],n)]) (by omega) (by omega) (by rw[← hA,hrep];simp))
   rw[ya1.l1,w64 (n:=(i:Int)+n) (by omega) (by omega),if_neg (by omega),if_pos (by omega),if_pos (by omega),if_pos (by rw[List.length_map];omega),yb3 hi,w64 (n:=(i:Int)+n-1) (by omega) (by omega),w64 (by omega) (by omega),List.map_append,show((i:Int)+n-1+1)=((i+n:Nat):Int) by omega]
   rfl
  | succ m ih =>
   intro i n A h hn hi hd hA hout
   have hin:i+n<vs.length:=by omega
   by_cases he:vs[i+n]=vs[i]
   ·refine Ev.step (fun k=>?_) (ih i (n+1) A (by omega) (by omega) hi ?_ hA hout)
    ·rw[ya1.l1,w64 (n:=(i:Int)+n) (by omega) (by omega),if_pos (by omega),if_pos (by omega),if_pos (by omega),if_pos (by omega),show((i:Int)+n)=((i+n:Nat):Int) by omega,yb3 hin,yb3 hi,if_pos he,w64s n (by omega)]
    ·rw[hd,List.drop_eq_getElem_cons hin,he,List.replicate_succ',List.append_assoc]
     rfl
   ·have hAl:A.length≤4096:=by
     have:=congrArg List.length hA
     have h2:=yf8 vs
     rw[List.length_append] at this
     omega
    have hrep:rle (vs.drop i)=(vs[i],n)::rle (vs.drop (i+n)):=by
     rw[hd]
     refine yg3 hn (fun u m r e=>?_)
     rw[List.drop_eq_getElem_cons hin] at e
     have hu:u=vs[i+n]:=by
      simp only[rle] at e
      split at e
      ·injection e with e1;injection e1 with e1;exact e1.symm
      ·split at e
       ·rename_i e2;injection e with e1;injection e1 with e1;rw[← e1,e2]
       ·injection e with e1;injection e1 with e1;exact e1.symm
     rw[hu]
     exact he
    refine Ev.step (fun k=>?_) (hout (i+n) (A++[(vs[i],n)]) (by omega) (by omega) (by rw[← hA,hrep];simp))
    rw[ya1.l1,w64 (n:=(i:Int)+n) (by omega) (by omega),if_pos (by omega),if_pos (by omega),if_pos (by omega),if_pos (by omega),show((i:Int)+n)=((i+n:Nat):Int) by omega,yb3 hin,yb3 hi,if_neg he,if_pos (by rw[List.length_map];omega),w64 (n:=((i+n:Nat):Int)-1) (by omega) (by omega),w64 (by omega) (by omega),List.map_append,show(((i+n:Nat):Int)-1+1)=((i+n:Nat):Int) by omega]
    rfl
 have key:∀ (n i:Nat) (A:List (Int×Nat)),i+n=vs.length→A++rle (vs.drop i)=rle vs→Ev (fun k=>ya1.l0 k vs (A.map toR) (i:Int)) ((rle vs).map toR,0):=by
  intro n
  induction n using Nat.strongRecOn with
  | ind n ih =>
   intro i A h hA
   by_cases h0:n=0
   ·refine Ev.step (fun k=>?_) (Ev.now _)
    rw[ya1.l0,if_neg (by omega)]
    rw[List.drop_eq_nil_of_le (by omega)] at hA
    rw[← hA]
    simp [rle]
   ·have hi:i<vs.length:=by omega
    refine Ev.step (fun k=>?_) (inner (n-1) i 1 A (by omega) (by decide) hi (by rw[List.drop_eq_getElem_cons hi];rfl) hA (fun i' A' h1 h2 h3=>ih (vs.length-i') (by omega) i' A' (by omega) h3))
    rw[ya1.l0,if_pos (by omega)]
    rfl
 unfold ya1.f
 refine Ev.same (fun k=>?_) (key vs.length 0 [] (by omega) rfl)
 rw[if_neg (by omega)]
 rfl
theorem rruns_ev (vs:List Int) (hl:vs.length≤4096) (hi:∀ v∈vs,I64 v):Ev (fun k=>yb4.f k vs) (yeg vs):=by
 have hrl:=yf8 vs
 have hB:=yfz (rle vs)
 unfold yeg yb4.f
 rw[if_pos hl]
 refine Ev.bind (rsplit_ev vs hl) ?_
 simp only[if_true,List.length_map]
 rw[wraps_u64 _ (by omega) (by omega)]
 refine Ev.bind (ye8 _ (by omega)) ?_
 have hv:=ya5 (rle vs).length
 have key:∀ n i:Nat,i+n=(rle vs).length→Ev (fun k=>yb4.l0 k ((rle vs).map toR) (vput (rle vs).length++(((rle vs).take i).map runB).flatten) (i:Int)) (vput (rle vs).length++((rle vs).map runB).flatten,0):=by
  intro n
  induction n with
  | zero =>
   intro i h
   refine Ev.step (fun k=>?_) (Ev.now _)
   rw[yb4.l0,if_neg (by rw[List.length_map];omega),List.take_of_length_le (by omega)]
  | succ n ih =>
   intro i h
   have hi2:i<(rle vs).length:=by omega
   have hm:=yja (List.getElem_mem hi2)
   have hI:=hi _ hm.1
   have hB2:=yfz ((rle vs).take i)
   rw[List.length_take] at hB2
   have h1:=ya5 (ycg (rle vs)[i].1)
   have h2:=ya5 (rle vs)[i].2
   have hrec:=ih (i+1) (by omega)
   rw[← ybc _ i hi2,List.map_append,List.flatten_append] at hrec
   simp only[List.map_cons,List.map_nil,List.flatten_cons,List.flatten_nil,List.append_nil] at hrec
   rw[show runB (rle vs)[i]=vput (ycg (rle vs)[i].1)++vput (rle vs)[i].2 from rfl,← List.append_assoc,← List.append_assoc] at hrec
   have hlen:(vput (rle vs).length++(((rle vs).take i).map runB).flatten).length≤200000:=by rw[List.length_append];omega
   refine Ev.step (g:=fun k=>(yae.f k ((ycg (rle vs)[i].1:Nat):Int)).bind fun t=>(yam.f k (vput (rle vs).length++(((rle vs).take i).map runB).flatten) t).bind fun y=>(yae.f k (((rle vs)[i].2:Nat):Int)).bind fun t2=>(yam.f k y t2).bind fun z=>yb4.l0 k ((rle vs).map toR) z ((i+1:Nat):Int)) (fun k=>?_) (Ev.bind (ye8 _ (yfd hI)) (Ev.bind (yha _ _ (by omega)) (Ev.bind (ye8 (rle vs)[i].2 (by omega)) (Ev.bind (yha _ _ (by rw[List.length_append];omega)) hrec))))
   ·rw[yb4.l0,if_pos (by rw[List.length_map];omega),if_pos (by omega),rdr_at hi2,w64s i (by omega)]
    unfold toR
    simp only
    rw[yky hI,Option.bind_some,wraps_u64 _ (by omega) (by omega)]
 have:=key (rle vs).length 0 (by omega)
 simpa using this
theorem rleast_ev (vs:List Int) (h0:vs≠[]) (hl:vs.length≤4096):Ev (fun k=>ybq.f k vs) (yc8 vs):=by
 have hpos:0<vs.length:=List.length_pos_iff.2 h0
 have key:∀ (n i:Nat) (m:Int),i+n=vs.length→m∈vs→(∀ v∈vs.take i,m≤v)→Ev (fun k=>ybq.l0 k vs m (i:Int)) (yc8 vs):=by
  intro n
  induction n with
  | zero =>
   intro i m h hm hle
   refine Ev.step (fun k=>?_) (Ev.now _)
   rw[List.take_of_length_le (by omega)] at hle
   rw[ybq.l0,if_neg (by omega),ykc hm hle]
  | succ n ih =>
   intro i m h hm hle
   have hi:i<vs.length:=by omega
   by_cases hx:vs[i]<m
   ·refine Ev.step (fun k=>?_) (ih (i+1) vs[i] (by omega) (List.getElem_mem hi) (fun v hv=>?_))
    ·rw[ybq.l0,if_pos (by omega),if_pos (by omega),yb3 hi,if_pos hx,w64s i (by omega)]
    ·rw[← ybc vs i hi] at hv
     rcases List.mem_append.1 hv with hv|hv
     ·have:=hle v hv;omega
     ·rw[List.mem_singleton.1 hv];exact Int.le_refl _
   ·refine Ev.step (fun k=>?_) (ih (i+1) m (by omega) hm (fun v hv=>?_))
    ·rw[ybq.l0,if_pos (by omega),if_pos (by omega),yb3 hi,if_neg hx,w64s i (by omega)]
    ·rw[← ybc vs i hi] at hv
     rcases List.mem_append.1 hv with hv|hv
     ·exact hle v hv
     ·rw[List.mem_singleton.1 hv];omega
 have e:rd vs 0=vs[0]:=yb3 hpos
 refine Ev.same (fun k=>?_) (key vs.length 0 vs[0] (by omega) (List.getElem_mem hpos) (fun v hv=>by simp at hv))
 unfold ybq.f
 rw[if_pos (by omega),e]
 rfl
theorem yok {a b:Int} (ha:I64 a) (hb:I64 b) (h:b≤a):IntKind.u64.wrap (IntKind.u64.wrap a-IntKind.u64.wrap b)=a-b:=by
 obtain⟨h1,h2⟩:=ha
 obtain⟨h3,h4⟩:=hb
 rw[IntKind.wrap_u64,IntKind.wrap_u64,IntKind.wrap_u64]
 omega
theorem rpk_ev (vs:List Int) (hl:vs.length≤4096) (hi:∀ v∈vs,I64 v):Ev (fun k=>ybo.f k vs) (ye9 vs):=by
 unfold ye9 ybo.f
 rw[if_neg (by omega)]
 refine Ev.same (g:=fun k=>(yae.f k ((vs.length:Nat):Int)).bind fun t=>if (vs.length:Int)=0 then some (t,0) else (ybq.f k vs).bind fun u=>ybo.l0 k vs t u [] 0) (fun k=>by rw[if_neg (by omega),wraps_u64 _ (by omega) (by omega)]) (Ev.bind (ye8 vs.length (by omega)) ?_)
 by_cases h0:vs.length=0
 ·rw[if_pos h0]
  refine Ev.same (fun k=>?_) (Ev.now _)
  rw[if_pos (by omega),h0]
 rw[if_neg h0]
 have hne:vs≠[]:=fun e=>h0 (by rw[e];rfl)
 have hI:=hi _ (yfv hne)
 have hu:=yjo hi
 have hw:=yjh hu
 have hfl:(farS vs).length=vs.length:=by simp [farS]
 have hv:=ya5 vs.length
 have hv2:=ya5 (ycg (yc8 vs))
 have hps:=yfg (widS (farS vs)) (farS vs) hw (by omega)
 refine Ev.same (g:=fun k=>(ybq.f k vs).bind fun t=>ybo.l0 k vs (vput vs.length) t [] 0) (fun k=>by rw[if_neg (by omega)]) (Ev.bind (rleast_ev vs hne hl) ?_)
 have key:∀ n i:Nat,i+n=vs.length→Ev (fun k=>ybo.l0 k vs (vput vs.length) (yc8 vs) ((farS vs).take i) (i:Int)) (vput vs.length++vput (ycg (yc8 vs))++[((widS (farS vs):Nat):Int)]++ydg (widS (farS vs)) (farS vs),0):=by
  intro n
  induction n with
  | zero =>
   intro i h
   rw[List.take_of_length_le (show(farS vs).length≤i by omega)]
   refine Ev.step (g:=fun k=>(yao.f k (farS vs)).bind fun t=>(yag.f k t (farS vs)).bind fun bt=>(ydm.f (yc8 vs)).bind fun u=>(yae.f k u).bind fun p=>(yam.f k (vput vs.length) p).bind fun y=>if y.length<140737488355328 then (yam.f k (y++[t%256]) bt.1).bind fun z=>some (z,0) else none) (fun k=>?_) (Ev.bind (rwidth_ev hu (by omega)) (Ev.bind (rpack hw (yke hu) (by omega)) ?_))
   ·rw[ybo.l0,if_neg (by omega)]
   ·rw[yky hI]
    refine Ev.same (g:=fun k=>(yae.f k ((ycg (yc8 vs):Nat):Int)).bind fun p=>(yam.f k (vput vs.length) p).bind fun y=>if y.length<140737488355328 then (yam.f k (y++[((widS (farS vs):Nat):Int)%256]) (ydg (widS (farS vs)) (farS vs))).bind fun z=>some (z,(0:Int)) else none) (fun k=>rfl) (Ev.bind (ye8 _ (yfd hI)) (Ev.bind (yha _ _ (by omega)) ?_))
    rw[show((widS (farS vs):Nat):Int)%256=((widS (farS vs):Nat):Int) by omega]
    refine Ev.same (g:=fun k=>(yam.f k (vput vs.length++vput (ycg (yc8 vs))++[((widS (farS vs):Nat):Int)]) (ydg (widS (farS vs)) (farS vs))).bind fun z=>some (z,(0:Int))) (fun k=>by rw[if_pos (by rw[List.length_append];omega)]) (Ev.bind (yha _ _ (by simp only[List.length_append,List.length_singleton];omega)) (Ev.now _))
  | succ n ih =>
   intro i h
   have hi2:i<vs.length:=by omega
   have e:(farS vs)[i]'(by omega)=vs[i] - yc8 vs:=by simp [farS]
   refine Ev.step (fun k=>?_) (ih (i+1) (by omega))
   rw[ybo.l0,if_pos (by omega),if_pos (by omega),if_pos (by rw[List.length_take];omega),yb3 hi2,yok (hi _ (List.getElem_mem hi2)) hI (yhv (List.getElem_mem hi2)),w64s i (by omega),← ybc (farS vs) i (by omega),e]
 exact key vs.length 0 (by omega)
theorem ylx (a b:List Int) (hl:a.length+b.length≤140737488355328):Ev (fun k=>ybd.f k a b) (a++b):=by
 have key:∀ n i:Nat,i+n=b.length→Ev (fun k=>ybd.l0 k (a++b.take i) b (i:Int)) (a++b):=by
  intro n
  induction n with
  | zero =>
   intro i h
   refine Ev.step (fun k=>?_) (Ev.now _)
   rw[ybd.l0,if_neg (by omega),List.take_of_length_le (by omega)]
  | succ n ih =>
   intro i h
   have hi:i<b.length:=by omega
   refine Ev.step (fun k=>?_) (ih (i+1) (by omega))
   rw[ybd.l0,if_pos (by omega),if_pos (by omega),if_pos (by rw[List.length_append,List.length_take];omega),yb3 hi,w64s i (by omega),List.append_assoc,ybc b i hi]
 have:=key b.length 0 (by omega)
 refine Ev.same (fun k=>?_) this
 unfold ybd.f
 rw[List.take_zero,List.append_nil]
 rfl
theorem yjs:∀ (a b:List Int) (i:Nat),(∀ j,(h1:j<i)→∀ (ha:j<a.length) (hb:j<b.length),a[j]=b[j])→i≤a.length→i≤b.length→ycq a b=i+ycq (a.drop i) (b.drop i)
 | a,b,0,_,_,_=>by simp
 | [],b,i+1,_,h,_=>by simp at h
 | a,[],i+1,_,_,h=>by simp at h
 | x::a,y::b,i+1,h,h1,h2=>by
  have e:=h 0 (by omega) (by simp) (by simp)
  simp at e
  have:=yjs a b i (fun j hj ha hb=>by have:=h (j+1) (by omega) (by simp;omega) (by simp;omega);simpa using this) (by simpa using h1) (by simpa using h2)
  simp only[ycq,List.drop_succ_cons]
  rw[if_pos e,this]
  omega
theorem same11_ev (a b:List Int) (hl:a.length≤140737488355328):Ev (fun k=>ybt.f k a b) ((ycq a b:Nat):Int):=by
 have key:∀ n i:Nat,i+n=a.length→i≤b.length→(∀ j,(h1:j<i)→∀ (ha:j<a.length) (hb:j<b.length),a[j]=b[j])→Ev (fun k=>ybt.l0 k a b (i:Int)) ((ycq a b:Nat):Int):=by
  intro n
  induction n with
  | zero =>
   intro i h hb hj
   have:=yjs a b i hj (by omega) hb
   rw[List.drop_eq_nil_of_le (show a.length≤i by omega)] at this
   refine Ev.step (fun k=>?_) (Ev.now _)
   rw[ybt.l0,if_neg (by omega),this,show ycq [] (b.drop i)=0 by cases b.drop i <;> rfl]
   congr 1
   omega
  | succ n ih =>
   intro i h hb hj
   have hi:i<a.length:=by omega
   have hs:=yjs a b i hj (by omega) hb
   rw[List.drop_eq_getElem_cons hi] at hs
   by_cases hib:i<b.length
   ·rw[List.drop_eq_getElem_cons hib] at hs
    simp only[ycq] at hs
    by_cases he:a[i]=b[i]
    ·refine Ev.step (fun k=>?_) (ih (i+1) (by omega) (by omega) (fun j hj1 ha hb2=>?_))
     ·rw[ybt.l0,if_pos (by omega),if_neg (by omega),if_pos (by omega),if_pos (by omega),yb3 hi,yb3 hib,if_pos he,w64s i (by omega)]
     ·by_cases e:j=i
      ·subst e;exact he
      ·exact hj j (by omega) ha hb2
    ·rw[if_neg he] at hs
     refine Ev.step (fun k=>?_) (Ev.now _)
     rw[ybt.l0,if_pos (by omega),if_neg (by omega),if_pos (by omega),if_pos (by omega),yb3 hi,yb3 hib,if_neg he,hs]
     rfl
   ·rw[List.drop_eq_nil_of_le (show b.length≤i by omega)] at hs
    simp only[ycq] at hs
    refine Ev.step (fun k=>?_) (Ev.now _)
    rw[ybt.l0,if_pos (by omega),if_pos (by omega),hs]
    rfl
 exact key a.length 0 (by omega) (by omega) (fun j h=>by omega)
theorem yn1 {last s:List Int} {whole:Bool} (h:s.length≤200):(yfo last s whole).length≤220:=by
 unfold yfo
 have h1:=ya5 (preK last s whole)
 have h2:=ya5 (s.length-preK last s whole)
 simp only[List.length_append,List.length_drop]
 omega
theorem yih (last s:List Int):∀ (ss:List (List Int)) (x:List Int) (i:Nat),yb7 (i+1) x (ss++[s])=yb7 (i+1) x ss++yfo ((x::ss).getLast?.getD last) s (decide ((i+(x::ss).length)%16=0))
 | [],x,i=>by simp [yb7]
 | y::ss,x,i=>by
  rw[List.cons_append]
  simp only[yb7]
  rw[yih last s ss y (i+1),List.append_assoc]
  have e:i+1+(y::ss).length=i+(x::y::ss).length:=by simp only[List.length_cons];omega
  rw[e]
  simp
theorem ykj (last s:List Int):∀ (ss:List (List Int)) (i:Nat),yb7 i last (ss++[s])=yb7 i last ss++yfo (ss.getLast?.getD last) s (decide ((i+ss.length)%16=0))
 | [],i=>by simp [yb7]
 | x::ss,i=>by
  rw[List.cons_append]
  simp only[yb7]
  rw[yih last s ss x i,List.append_assoc]
theorem ygs:∀ (ss:List (List Int)) (i:Nat) (last:List Int),(∀ s∈ss,s.length≤200)→(yb7 i last ss).length≤220*ss.length
 | [],_,_,_=>by simp [yb7]
 | s::ss,i,last,h=>by
  have h1:=yn1 (last:=last) (whole:=decide (i%16=0)) (h s (by simp))
  have h2:=ygs ss (i+1) s (fun x hx=>h x (by simp [hx]))
  simp only[yb7]
  rw[List.length_append,List.length_cons]
  omega
theorem rpre_ev (ss:List (List Int)) (hl:ss.length≤4096) (hs:∀ s∈ss,s.length≤200):Ev (fun k=>yaw.f k ss) (yei ss):=by
 have hv:=ya5 ss.length
 unfold yei yaw.f
 rw[if_neg (by rintro(h|⟨s,h1,h2⟩);omega;have:=hs s h1;omega)]
 refine Ev.same (g:=fun k=>(yae.f k ((ss.length:Nat):Int)).bind fun t=>yaw.l0 k ss t 0) (fun k=>by rw[if_neg (by omega),wraps_u64 _ (by omega) (by omega)]) (Ev.bind (ye8 ss.length (by omega)) ?_)
 have key1:∀ n i:Nat,i+n=ss.length→Ev (fun k=>yaw.l1 k ss (vput ss.length++yb7 0 [] (ss.take i)) (i:Int)) (vput ss.length++yb7 0 [] ss,0):=by
  intro n
  induction n with
  | zero =>
   intro i h
   refine Ev.step (fun k=>?_) (Ev.now _)
   rw[yaw.l1,if_neg (by omega),List.take_of_length_le (by omega)]
  | succ n ih =>
   intro i h
   have hi:i<ss.length:=by omega
   have hsi:=hs ss[i] (List.getElem_mem hi)
   have hpl:=ygs (ss.take i) 0 [] (fun x hx=>hs x (List.mem_of_mem_take hx))
   rw[List.length_take] at hpl
   have hlen:(vput ss.length++yb7 0 [] (ss.take i)).length≤1000000:=by rw[List.length_append];omega
   have hrec:=ih (i+1) (by omega)
   rw[← ybc ss i hi,ykj,List.length_take,Nat.zero_add,Nat.min_eq_left (by omega)] at hrec
   have tail:∀ K:Nat,K≤ss[i].length→preK ((ss.take i).getLast?.getD []) ss[i] (decide (i%16=0))=K→Ev (fun k=>yaw.j2 k ss (vput ss.length++yb7 0 [] (ss.take i)) (i:Int) (K:Int)) (vput ss.length++yb7 0 [] ss,0):=by
    intro K hK hpk
    unfold yfo at hrec
    rw[hpk,← List.append_assoc,← List.append_assoc] at hrec
    have h1:=ya5 K
    have h2:=ya5 (ss[i].length-K)
    refine Ev.step (g:=fun k=>(yae.f k (K:Int)).bind fun t=>(ybd.f k (vput ss.length++yb7 0 [] (ss.take i)) t).bind fun y=>(yae.f k ((ss[i].length-K:Nat):Int)).bind fun t2=>(ybd.f k y t2).bind fun z=>(ybd.f k z (ss[i].drop K)).bind fun q=>yaw.l1 k ss q ((i+1:Nat):Int)) (fun k=>?_) (Ev.bind (ye8 _ (by omega)) (Ev.bind (ylx _ _ (by omega)) (Ev.bind (ye8 (ss[i].length-K) (by omega)) (Ev.bind (ylx _ _ (by rw[List.length_append];omega)) (Ev.bind (ylx (vput ss.length++yb7 0 [] (ss.take i)++vput K++vput (ss[i].length-K)) (ss[i].drop K) (by simp only[List.length_append,List.length_drop] at hlen ⊢;omega)) ?_)))))
    ·have c1:(0:Int)≤(i:Int):=by omega
     have c2:(i:Int)<(ss.length:Int):=by omega
     have c3:(0:Int)≤(K:Int):=by omega
     have c4:(K:Int)≤(ss[i].length:Int):=by omega
     rw[yaw.j2,wraps_u64 _ (by omega) (by omega),ye3 hi,w64 (n:=(ss[i].length:Int)-K) (by omega) (by omega),wraps_u64 _ (by omega) (by omega),Int.toNat_natCast,w64s i (by omega),show((ss[i].length:Int)-K)=((ss[i].length-K:Nat):Int) by omega]
     simp only[if_pos c1,if_pos c2,if_pos c3,if_pos c4]
    ·simp only[List.append_assoc] at hrec ⊢
     exact hrec
   have hmod:Int.tmod (i:Int) 16=((i%16:Nat):Int):=by rw[Int.tmod_eq_emod_of_nonneg (by omega)];omega
   by_cases h16:i%16=0
   ·refine Ev.step (fun k=>?_) (tail 0 (by omega) (by unfold preK;rw[decide_eq_true h16];rfl))
    rw[yaw.l1,if_pos (by omega),hmod,if_pos (by omega)]
    rfl
   ·obtain⟨j,rfl⟩:∃ j,i=j+1:=⟨i-1,by omega⟩
    have hj:j<ss.length:=by omega
    have hlast:(ss.take (j+1)).getLast?.getD []=ss[j]:=by rw[← ybc ss j hj,List.getLast?_concat];rfl
    have hsp:=ygg ss[j] ss[j+1]
    refine Ev.step (g:=fun k=>(ybt.f k ss[j] ss[j+1]).bind fun t=>yaw.j2 k ss (vput ss.length++yb7 0 [] (ss.take (j+1))) ((j+1:Nat):Int) t) (fun k=>?_) (Ev.bind (same11_ev ss[j] ss[j+1] (by have:=hs ss[j] (List.getElem_mem hj);omega)) (tail (ycq ss[j] ss[j+1]) hsp.2.1 (by unfold preK;rw[hlast,decide_eq_false h16];rfl)))
    rw[yaw.l1,if_pos (by omega),hmod,if_neg (by omega),wl j (by omega),if_pos (by omega),if_pos (by omega),if_pos (by omega),ye3 hj,ye3 hi]
 have key0:∀ n i:Nat,i+n=ss.length→Ev (fun k=>yaw.l0 k ss (vput ss.length) (i:Int)) (vput ss.length++yb7 0 [] ss,0):=by
  intro n
  induction n with
  | zero =>
   intro i h
   have:=key1 ss.length 0 (by omega)
   rw[List.take_zero,show yb7 0 [] []=[] from rfl,List.append_nil] at this
   refine Ev.step (fun k=>?_) this
   rw[yaw.l0,if_neg (by omega)]
   rfl
  | succ n ih =>
   intro i h
   have hi:i<ss.length:=by omega
   have hsi:=hs ss[i] (List.getElem_mem hi)
   refine Ev.step (fun k=>?_) (ih (i+1) (by omega))
   rw[yaw.l0,if_pos (by omega),if_pos (by omega),ye3 hi,if_neg (by omega),w64s i (by omega)]
 exact key0 ss.length 0 (by omega)
structure Fine (kind:Int) (cs:List Cel):Prop where
 good:yd0 kind
 len:cs.length≤4096
 chk:∀ c∈cs,yd3 kind c=0
 ok:∀ c∈cs,yew c
theorem Fine.plainly {kind:Int} {cs:List Cel} (h:Fine kind cs):∀ c∈ydd cs,ycw kind c:=fun c hc=>yi6 (h.chk c (ydq.1 hc).1) (h.ok c (ydq.1 hc).1) (ydq.1 hc).2
theorem Fine.nums {kind:Int} {cs:List Cel} (h:Fine kind cs):(ycm cs).length≤4096∧∀ v∈ycm cs,I64 v:=by
 refine⟨?_,fun v hv=>?_⟩
 ·unfold ycm
  rw[List.length_map]
  exact Nat.le_trans (List.length_filter_le _ _) h.len
 ·obtain⟨c,hc,rfl⟩:=List.mem_map.1 hv
  exact(h.ok c (ydq.1 hc).1).1
theorem Fine.texts {kind:Int} {cs:List Cel} (h:Fine kind cs):(ybp cs).length≤4096∧∀ s∈ybp cs,Bys s:=by
 refine⟨?_,fun v hv=>?_⟩
 ·unfold ybp
  rw[List.length_map]
  exact Nat.le_trans (List.length_filter_le _ _) h.len
 ·obtain⟨c,hc,rfl⟩:=List.mem_map.1 hv
  exact(h.ok c (ydq.1 hc).1).2.1
theorem Fine.short {kind:Int} {cs:List Cel} (h:Fine kind cs) (hk:6<kind):∀ s∈ybp cs,s.length≤200:=by
 intro v hv
 obtain⟨c,hc,rfl⟩:=List.mem_map.1 hv
 have:=h.plainly c hc
 unfold ycw at this
 rw[if_neg (by omega)] at this
 exact this.2
theorem Bys.nil:Bys []:=fun x hx=>(by cases hx)
theorem Bys.one {x:Int} (h:0≤x∧x<256):Bys [x]:=fun y hy=>by rw[List.mem_singleton.1 hy];exact h
theorem Bys.flat {α:Type} {f:α→List Int}:∀ {l:List α},(∀ a∈l,Bys (f a))→Bys ((l.map f).flatten)
 | [],_=>Bys.nil
 | a::l,h=>by
  rw[List.map_cons,List.flatten_cons]
  exact(h a (by simp)).append (Bys.flat (fun b hb=>h b (by simp [hb])))
theorem ypf {vs:List Int} (hl:vs.length≤4096) (hi:∀ v∈vs,I64 v):Bys (yeg vs).1∧(yeg vs).1.length≤100000:=by
 have h1:=yf8 vs
 have h2:=yfz (rle vs)
 have h3:=ya5 (rle vs).length
 unfold yeg
 rw[if_pos hl]
 refine⟨(yem _ (by omega)).append (Bys.flat fun r hr=>?_),by simp only[List.length_append];omega⟩
 have:=yja hr
 exact(yem _ (yfd (hi _ this.1))).append (yem _ (by omega))
theorem encPk_bys {vs:List Int} (hl:vs.length≤4096) (hi:∀ v∈vs,I64 v):Bys (ye9 vs).1∧(ye9 vs).1.length≤100000:=by
 unfold ye9
 rw[if_neg (by omega)]
 by_cases h0:vs.length=0
 ·rw[if_pos h0]
  exact⟨yem 0 (by decide),by have:=ya5 0;simp only;omega⟩
 rw[if_neg h0]
 have hne:vs≠[]:=fun e=>h0 (by rw[e];rfl)
 have hu:=yjo hi
 have hw:=yjh hu
 have h1:=ya5 vs.length
 have h2:=ya5 (ycg (yc8 vs))
 have h3:=yfg (widS (farS vs)) (farS vs) hw (by simp [farS];omega)
 refine⟨(((yem _ (by omega)).append (yem _ (yfd (hi _ (yfv hne))))).append (Bys.one (by omega))).append (ykd _ _),by simp only[List.length_append,List.length_singleton];omega⟩
theorem encS_bys {ss:List (List Int)} (hl:ss.length≤4096) (hs:∀ s∈ss,s.length≤200) (hb:∀ s∈ss,Bys s):Bys (encS ss).1∧(encS ss).1.length≤1000000:=by
 have hid:(idx ss).2.2=0:=by
  unfold idx
  rw[if_neg]
  rintro(h|⟨s,h1,h⟩)
  ·omega
  ·have:=hs s h1;omega
 obtain⟨_,_,h3,h4⟩:=yk4 hid
 have hel:=yfy ss
 have h5:=ygy (ents ss) (fun s h=>hs s (ydp.1 h))
 have h6:=ya5 (ents ss).length
 have h7:=ya5 (idx ss).2.1.length
 have h8:=yfg (wid (ents ss).length) (idx ss).2.1 (by have:=yje (ents ss).length (by omega);omega) (by rw[h4,List.length_map];exact hl)
 have h9:(idx ss).2.1.length=ss.length:=by rw[h4,List.length_map]
 unfold encS
 rw[if_pos hid]
 unfold encB
 rw[h3]
 refine⟨(((yem _ (by omega)).append (Bys.flat fun s h=>?_)).append (yem _ (by omega))).append (ykd _ _),by simp only[List.length_append];omega⟩
 have h10:=hs s (ydp.1 h)
 exact(yem _ (by omega)).append (hb s (ydp.1 h))
theorem ylu:∀ (ss:List (List Int)) (i:Nat) (last:List Int),(∀ s∈ss,s.length≤200)→(∀ s∈ss,Bys s)→Bys (yb7 i last ss)
 | [],_,_,_,_=>Bys.nil
 | s::ss,i,last,hs,hb=>by
  simp only[yb7]
  refine Bys.append ?_ (ylu ss (i+1) s (fun x hx=>hs x (by simp [hx])) (fun x hx=>hb x (by simp [hx])))
  have h1:=hs s (by simp)
  have hk:preK last s (decide (i%16=0))≤s.length:=by
   unfold preK
   split
   ·omega
   ·exact(ygg last s).2.1
  exact((yem _ (by omega)).append (yem _ (by omega))).append ((hb s (by simp)).drop _)
theorem yqf {ss:List (List Int)} (hl:ss.length≤4096) (hs:∀ s∈ss,s.length≤200) (hb:∀ s∈ss,Bys s):Bys (yei ss).1∧(yei ss).1.length≤1000000:=by
 have h1:=ygs ss 0 [] hs
 have h2:=ya5 ss.length
 unfold yei
 rw[if_neg (by rintro(h|⟨s,h1,h2⟩);omega;have:=hs s h1;omega)]
 exact⟨(yem _ (by omega)).append (ylu ss 0 [] hs hb),by simp only[List.length_append];omega⟩
theorem yqg {kind:Int} {c:Cel} (h:ycw kind c) (ok:yew c):Bys (yds kind c):=by
 unfold yds ycw at *
 split
 ·rename_i hk
  rw[if_pos hk] at h
  exact yem _ (yfd h.2)
 ·rename_i hk
  rw[if_neg hk] at h
  have:=h.2
  exact(yem _ (by omega)).append ok.2.1
theorem ykn {kind codec:Int} {cs:List Cel} (h:Fine kind cs) (hf:ycz kind codec):Bys (ycj kind codec cs).1∧(ycj kind codec cs).1.length≤1000000∧(ycj kind codec cs).2=0:=by
 have h2:=(ym5 hf h.len h.plainly).1
 refine(fun(x:Bys (ycj kind codec cs).1∧(ycj kind codec cs).1.length≤1000000)=>⟨x.1,x.2,h2⟩) ?_
 have htl:(ydd cs).length≤cs.length:=List.length_filter_le _ _
 have hl:=h.len
 unfold ycj
 by_cases e2:codec=2
 ·rw[if_pos e2]
  have:=ypf h.nums.1 h.nums.2
  exact⟨this.1,by omega⟩
 rw[if_neg e2]
 by_cases e3:codec=3
 ·rw[if_pos e3]
  have:=encPk_bys h.nums.1 h.nums.2
  exact⟨this.1,by omega⟩
 rw[if_neg e3]
 by_cases e4:codec=4
 ·rw[if_pos e4]
  exact encS_bys h.texts.1 (h.short (by unfold ycz at hf;omega)) h.texts.2
 rw[if_neg e4]
 by_cases e5:codec=5
 ·rw[if_pos e5]
  exact yqf h.texts.1 (h.short (by unfold ycz at hf;omega)) h.texts.2
 rw[if_neg e5]
 have h3:=yg2 h.plainly
 refine⟨Bys.flat fun c hc=>yqg (h.plainly c hc) (h.ok c (ydq.1 hc).1),?_⟩
 show(yda kind cs).length≤_
 unfold yda
 omega
theorem ypk {cs:List Cel} (hl:cs.length≤4096):Bys (ye7 cs)∧(ye7 cs).length≤50000:=by
 have:=yfg 1 (cs.map ych) (by decide) (by rw[List.length_map];exact hl)
 unfold ye7
 split
 ·exact⟨(Bys.one (by decide)).append (ykd _ _),by rw[List.length_cons];omega⟩
 ·exact⟨Bys.one (by decide),by decide⟩
theorem yju {kind codec:Int} (h:ycz kind codec):1≤codec∧codec≤5:=by unfold ycz at h;omega
theorem ykp {kind codec:Int} {cs:List Cel} (hl:cs.length≤4096) (hf:ycz kind codec):Bys (yek codec cs)∧(yek codec cs).length≤60000:=by
 have h1:=yju hf
 have h2:=ypk hl
 have h3:=ya5 cs.length
 unfold yek
 exact⟨(Bys.one (by omega)).append ((yem _ (by omega)).append h2.1),by simp only[List.length_cons,List.length_append];omega⟩
theorem yk6 {kind:Int} {cs:List Cel} (hk:¬ (kind<1∨8<kind)) (hc:ycx kind cs=0) (hok:∀ c∈cs,yew c):Fine kind cs:=⟨⟨by omega,by omega⟩,(yid.1 hc).1,(yid.1 hc).2,hok⟩
end Go.Proofs.YteeikgjjgfdjgaaGreat.PK
end
