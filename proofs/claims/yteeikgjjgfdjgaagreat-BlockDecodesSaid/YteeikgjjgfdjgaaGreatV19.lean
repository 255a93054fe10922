/-
  Parts of the proof: Bx, Bb, Bt, Ca, Cr.
-/
import Derived.Test.YteeikgjjgfdjgaaGreatV18
import Derived.Lib.Zigzag
import Derived.Laws.BitsAllLaws
section
namespace Go.Proofs.YteeikgjjgfdjgaaGreat.PK
open Go.RowKit
set_option linter.unusedVariables false
set_option linter.unusedSimpArgs false
def yb4:List Int→List Int→Nat
 | x::xs,y::ys=>if x=y then yb4 xs ys+1 else 0
 | _,_=>0
theorem yhg:∀ (a b:List Int),yb4 a b≤a.length∧yb4 a b≤b.length∧a.take (yb4 a b)=b.take (yb4 a b)
 | [],b=>by cases b <;> simp [yb4]
 | x::a,[]=>by simp [yb4]
 | x::a,y::b=>by
  obtain⟨h1,h2,h3⟩:=yhg a b
  simp only[yb4]
  split
  ·rename_i e
   subst e
   simp
   exact⟨h1,h2,h3⟩
  ·simp
def preK (last s:List Int) (whole:Bool):Nat:=if whole then 0 else yb4 last s
def yfz (last s:List Int) (whole:Bool):List Int:=vput (preK last s whole)++vput (s.length-preK last s whole)++s.drop (preK last s whole)
def yc5:Nat→List Int→List (List Int)→List Int
 | _,_,[]=>[]
 | i,last,s::ss=>yfz last s (decide (i%16=0))++yc5 (i+1) s ss
def ye5 (ss:List (List Int)):List Int×Int:=if 4096<ss.length∨∃ s∈ss,200<s.length then ([],4) else (vput ss.length++yc5 0 [] ss,0)
def ycc (b:List Int) (p:Nat) (last:List Int) (whole:Bool):List Int×Nat×Int:=
 if (vget b p).2.2≠0 then ([],0,(vget b p).2.2) else
 if (vget b (vget b p).2.1).2.2≠0 then ([],0,(vget b (vget b p).2.1).2.2) else
 if last.length<(vget b p).1∨(whole=true∧0<(vget b p).1) then ([],0,5) else
 if 200<(vget b p).1+(vget b (vget b p).2.1).1 then ([],0,4) else
 if b.length-(vget b (vget b p).2.1).2.1<(vget b (vget b p).2.1).1 then ([],0,2) else
 if whole=false∧yb4 last (last.take (vget b p).1++(b.drop (vget b (vget b p).2.1).2.1).take (vget b (vget b p).2.1).1)≠(vget b p).1 then ([],0,5) else
 (last.take (vget b p).1++(b.drop (vget b (vget b p).2.1).2.1).take (vget b (vget b p).2.1).1,(vget b (vget b p).2.1).2.1+(vget b (vget b p).2.1).1,0)
def yc6 (b:List Int):Nat→Nat→Nat→List Int→List (List Int)→List (List Int)×Nat×Int
 | 0,_,p,_,out=>(out,p,0)
 | n+1,i,p,last,out =>
  if (ycc b p last (decide (i%16=0))).2.2≠0 then ([],0,(ycc b p last (decide (i%16=0))).2.2) else
  yc6 b n (i+1) (ycc b p last (decide (i%16=0))).2.1 (ycc b p last (decide (i%16=0))).1 (out++[(ycc b p last (decide (i%16=0))).1])
def ydr (b:List Int):List (List Int)×Int:=
 if (vget b 0).2.2≠0 then ([],(vget b 0).2.2) else
 if 4096<(vget b 0).1 then ([],4) else
 if (yc6 b (vget b 0).1 0 (vget b 0).2.1 [] []).2.2≠0 then ([],(yc6 b (vget b 0).1 0 (vget b 0).2.1 [] []).2.2) else
 if (yc6 b (vget b 0).1 0 (vget b 0).2.1 [] []).2.1<b.length then ([],3) else ((yc6 b (vget b 0).1 0 (vget b 0).2.1 [] []).1,0)
theorem yp0 {b last s Y:List Int} {p:Nat} {whole:Bool} (hs:s.length≤200) (hb:p≤b.length) (h:b.drop p=yfz last s whole++Y):ycc b p last whole=(s,p+(yfz last s whole).length,0):=by
 obtain⟨k1,k2,k3⟩:=yhg last s
 have hk:preK last s whole≤s.length∧preK last s whole≤last.length∧last.take (preK last s whole)=s.take (preK last s whole):=by
  unfold preK
  split
  ·simp
  ·exact⟨k2,k1,k3⟩
 have h0:=h
 unfold yfz at h
 rw[List.append_assoc,List.append_assoc] at h
 have g1:=yfk (by omega) h
 have h2:=yd9 h
 have g2:=yfk (by omega) h2
 have h3:=yd9 h2
 have hl:s.length-preK last s whole≤b.length-(p+(vput (preK last s whole)).length+(vput (s.length-preK last s whole)).length):=by
  have:=congrArg List.length h3
  rw[List.length_drop,List.length_append,List.length_drop] at this
  omega
 have ht:last.take (preK last s whole)++(b.drop (p+(vput (preK last s whole)).length+(vput (s.length-preK last s whole)).length)).take (s.length-preK last s whole)=s:=by
  rw[h3,List.take_append_of_le_length (by rw[List.length_drop];omega),List.take_of_length_le (l:=s.drop (preK last s whole)) (by rw[List.length_drop];omega),hk.2.2,List.take_append_drop]
 unfold ycc
 rw[g1]
 simp only
 rw[g2]
 simp only
 rw[if_neg (by simp),if_neg (by simp),if_neg,if_neg (by omega),if_neg (by omega),ht,if_neg]
 ·rw[Prod.mk.injEq,Prod.mk.injEq]
  refine⟨rfl,?_,rfl⟩
  unfold yfz
  simp
  omega
 ·rintro⟨h5,h6⟩
  exact h6 (by unfold preK;rw[h5];rfl)
 ·rintro(h5|⟨h5,h6⟩)
  ·omega
  ·unfold preK at h6
   rw[h5] at h6
   simp at h6
theorem ypp {b last:List Int} (hb:Bys b) {p:Nat} {whole:Bool} (h:(ycc b p last whole).2.2=0) :
  (ycc b p last whole).1.length≤200∧p<(ycc b p last whole).2.1∧(ycc b p last whole).2.1≤b.length∧b.drop p=yfz last (ycc b p last whole).1 whole++b.drop (ycc b p last whole).2.1:=by
 unfold ycc at h ⊢
 rcases hg:vget b p with ⟨k,q,e⟩
 rw[hg] at h
 simp only at h ⊢
 by_cases he:e=0
 rotate_left
 ·rw[if_pos he] at h;exact absurd h he
 subst he
 rw[if_neg (by simp)] at h ⊢
 rcases hg2:vget b q with ⟨m,t,e⟩
 rw[hg2] at h
 simp only at h ⊢
 by_cases he:e=0
 rotate_left
 ·rw[if_pos he] at h;exact absurd h he
 subst he
 rw[if_neg (by simp)] at h ⊢
 split at h
 ·simp at h
 rename_i h1
 rw[if_neg h1]
 split at h
 ·simp at h
 rename_i h2
 rw[if_neg h2]
 split at h
 ·simp at h
 rename_i h3
 rw[if_neg h3]
 split at h
 ·simp at h
 rename_i h4
 rw[if_neg h4]
 simp only
 obtain⟨k1,k2,k3⟩:=yef hb hg
 obtain⟨k4,k5,k6⟩:=yef hb hg2
 have hkl:k≤last.length:=Nat.not_lt.1 fun h=>h1 (.inl h)
 have hlen:(last.take k++(b.drop t).take m).length=k+m:=by simp;omega
 have hpk:preK last (last.take k++(b.drop t).take m) whole=k:=by
  unfold preK
  cases whole with
  | true =>
   have:¬ 0<k:=fun hk=>h1 (.inr ⟨rfl,hk⟩)
   simp;omega
  | false=>exact Decidable.byContradiction fun e=>h4 ⟨rfl,e⟩
 refine⟨by omega,by omega,by omega,?_⟩
 unfold yfz
 have hdk:(last.take k++(b.drop t).take m).drop k=(b.drop t).take m:=by
  rw[List.drop_append_of_le_length (by rw[List.length_take];omega),List.drop_of_length_le (l:=last.take k) (by rw[List.length_take];omega),List.nil_append]
 rw[hpk,hlen,show k+m-k=m from by omega,hdk,k3,k6,List.append_assoc,List.append_assoc,← List.drop_drop,List.take_append_drop]
theorem yp5 {b:List Int}:∀ (ss:List (List Int)) (i p:Nat) (last Y:List Int) (out:List (List Int)),(∀ s∈ss,s.length≤200)→p≤b.length→b.drop p=yc5 i last ss++Y →
  yc6 b ss.length i p last out=(out++ss,p+(yc5 i last ss).length,0):=by
 intro ss
 induction ss with
 | nil=>intro i p last Y out _ _ _;simp [yc6,yc5]
 | cons s ss ih =>
  intro i p last Y out hs hp hd
  simp only[yc5] at hd ⊢
  rw[List.append_assoc] at hd
  have g:=yp0 (hs s (by simp)) hp hd
  have hd2:=yd9 hd
  have hp2:p+(yfz last s (decide (i%16=0))).length≤b.length:=by
   have:=congrArg List.length hd
   rw[List.length_drop,List.length_append] at this
   by_cases e:(yfz last s (decide (i%16=0))).length=0 <;> omega
  rw[List.length_cons,yc6,g]
  simp only
  rw[if_neg (by simp),ih (i+1) _ s Y _ (fun x hx=>hs x (by simp [hx])) hp2 hd2]
  simp
  omega
theorem ypv {b:List Int} (hb:Bys b):∀ (n i p:Nat) (last:List Int) (out:List (List Int)),p≤b.length→(yc6 b n i p last out).2.2=0 →
  ∃ ss,ss.length=n∧(∀ s∈ss,s.length≤200)∧(yc6 b n i p last out).1=out++ss∧(yc6 b n i p last out).2.1≤b.length∧b.drop p=yc5 i last ss++b.drop (yc6 b n i p last out).2.1:=by
 intro n
 induction n with
 | zero =>
  intro i p last out hp h
  exact⟨[],rfl,fun s hs=>(by cases hs),by simp [yc6],hp,by simp [yc6,yc5]⟩
 | succ n ih =>
  intro i p last out hp h
  rw[yc6] at h ⊢
  by_cases he:(ycc b p last (decide (i%16=0))).2.2=0
  rotate_left
  ·rw[if_pos he] at h;exact absurd h he
  rw[if_neg (by simpa using he)] at h ⊢
  obtain⟨h1,h2,h3,h4⟩:=ypp hb he
  obtain⟨ss,e1,e2,e3,e4,e5⟩:=ih (i+1) _ _ _ h3 h
  refine⟨(ycc b p last (decide (i%16=0))).1::ss,by simp [e1],fun s hs=>?_,(by rw[e3,List.append_assoc];rfl),e4,?_⟩
  ·rcases List.mem_cons.1 hs with rfl|hs
   ·exact h1
   ·exact e2 s hs
  ·simp only[yc5]
   conv=>lhs;rw[h4,e5]
   rw[List.append_assoc]
theorem yrl {ss:List (List Int)} (h:(ye5 ss).2=0):ydr (ye5 ss).1=(ss,0):=by
 unfold ye5 at h ⊢
 split at h
 ·simp at h
 rename_i hno
 rw[if_neg hno]
 simp only
 have hl:ss.length≤4096:=Nat.not_lt.1 fun h=>hno (.inl h)
 have hs:∀ s∈ss,s.length≤200:=fun s hs=>Nat.not_lt.1 fun h=>hno (.inr ⟨s,hs,h⟩)
 generalize hB:vput ss.length++yc5 0 [] ss=B
 have hd:B.drop 0=vput ss.length++yc5 0 [] ss:=by rw[hB];rfl
 have g:=yfk (by omega) hd
 have hd2:=yd9 hd
 have hlen:B.length=(vput ss.length).length+(yc5 0 [] ss).length:=by rw[← hB,List.length_append]
 have hL:=yp5 (b:=B) ss 0 (0+(vput ss.length).length) [] [] [] hs (by omega) (by rw[hd2,List.append_nil])
 unfold ydr
 rw[g]
 simp only
 rw[if_neg (by simp),if_neg (by omega),hL]
 simp only
 rw[if_neg (by simp),if_neg (by omega),List.nil_append]
theorem yjp {b:List Int} (hb:Bys b) (h:(ydr b).2=0):ye5 (ydr b).1=(b,0)∧(∀ s∈(ydr b).1,s.length≤200)∧(ydr b).1.length≤4096:=by
 unfold ydr at h ⊢
 rcases hg:vget b 0 with ⟨n,q,e⟩
 rw[hg] at h
 simp only at h ⊢
 by_cases he:e=0
 rotate_left
 ·rw[if_pos he] at h;exact absurd h he
 subst he
 rw[if_neg (by simp)] at h ⊢
 by_cases hn:4096<n
 ·rw[if_pos hn] at h;exact absurd h (by decide)
 rw[if_neg hn] at h ⊢
 obtain⟨k1,k2,k3⟩:=yef hb hg
 by_cases hL:(yc6 b n 0 q [] []).2.2=0
 rotate_left
 ·rw[if_pos hL] at h;exact absurd h hL
 rw[if_neg (by simpa using hL)] at h ⊢
 obtain⟨ss,h1,h2,h3,h4,h5⟩:=ypv hb n 0 q [] [] k2 hL
 by_cases ht:(yc6 b n 0 q [] []).2.1<b.length
 ·rw[if_pos ht] at h;exact absurd h (by decide)
 rw[if_neg ht]
 simp only
 rw[List.nil_append] at h3
 rw[h3]
 refine⟨?_,h2,by omega⟩
 unfold ye5
 rw[if_neg,h1]
 ·rw[Prod.mk.injEq]
  refine⟨?_,rfl⟩
  have e1:b.drop 0=b:=rfl
  conv=>rhs;rw[← e1,k3,h5,List.drop_eq_nil_of_le (show b.length≤(yc6 b n 0 q [] []).2.1 by omega),List.append_nil]
 ·rintro(h6|⟨s,hs,h6⟩)
  ·omega
  ·have:=h2 s hs;omega
theorem yq8 {b:List Int} (h:(ydr b).2≠0):(ydr b).1=[]:=by
 unfold ydr at h ⊢
 repeat' split
 all_goals simp_all
theorem yk7 {b last:List Int} (hb:Bys b) (hl:Bys last) {p:Nat} {whole:Bool}:Bys (ycc b p last whole).1:=by
 unfold ycc
 repeat' split
 all_goals first|exact fun x hx=>(by cases hx)|exact(hl.take _).append ((hb.drop _).take _)
theorem ypb {b:List Int} (hb:Bys b):∀ (n i p:Nat) (last:List Int) (out:List (List Int)),Bys last→(∀ s∈out,Bys s)→∀ s∈(yc6 b n i p last out).1,Bys s:=by
 intro n
 induction n with
 | zero=>intro i p last out _ ho;exact ho
 | succ n ih =>
  intro i p last out hl ho
  rw[yc6]
  split
  ·intro s hs;cases hs
  ·refine ih _ _ _ _ (yk7 hb hl) fun s hs=>?_
   rcases List.mem_append.1 hs with hs|hs
   ·exact ho s hs
   ·rw[List.mem_singleton.1 hs];exact yk7 hb hl
theorem yrh {b:List Int} (hb:Bys b):∀ s∈(ydr b).1,Bys s:=by
 unfold ydr
 repeat' split
 all_goals first|exact fun x hx=>(by cases hx)|exact ypb hb _ _ _ _ _ (fun x hx=>(by cases hx)) (fun x hx=>(by cases hx))
abbrev Cel:=S53
def ygl (kind:Int):Int:=if kind=1 then -128 else if kind=2 then -32768 else if kind=3 then -2147483648 else if kind=4 then -9223372036854775808 else 0
def yg8 (kind:Int):Int:=if kind=1 then 127 else if kind=2 then 32767 else if kind=3 then 2147483647 else if kind=4 then 9223372036854775807 else if kind=5 then 65535 else 1
def ydu (kind:Int) (c:Cel):Int:=
 if kind<1∨8<kind then 1 else
 if c.f0=true then (if c.f1≠0∨0<c.f2.length then 50 else 0) else
 if kind≤6 then (if 0<c.f2.length then 50 else if c.f1<ygl kind∨yg8 kind<c.f1 then 52 else 0) else
 if c.f1≠0 then 50 else if 200<c.f2.length then 4 else if kind=7∧(0:Int)∈c.f2 then 5 else 0
def yfj (kind:Int):List Cel→Int
 | []=>0
 | c::cs=>if ydu kind c≠0 then ydu kind c else yfj kind cs
def yc0 (kind:Int) (cs:List Cel):Int:=if 4096<cs.length then 4 else yfj kind cs
theorem yju {kind:Int}:∀ {cs:List Cel},yfj kind cs=0↔∀ c∈cs,ydu kind c=0
 | []=>⟨fun _ c hc=>(by cases hc),fun _=>rfl⟩
 | c::cs=>by
  simp only[yfj]
  by_cases h:ydu kind c=0
  ·rw[if_neg (by simpa using h),yju (cs:=cs)]
   exact⟨fun h1 d hd=>(List.mem_cons.1 hd).elim (fun e=>e▸h) (h1 d),fun h1 d hd=>h1 d (by simp [hd])⟩
  ·rw[if_pos h]
   exact⟨fun e=>absurd e h,fun h1=>absurd (h1 c (by simp)) h⟩
theorem yhm {kind:Int} {cs:List Cel}:yc0 kind cs=0↔cs.length≤4096∧∀ c∈cs,ydu kind c=0:=by
 unfold yc0
 by_cases h:4096<cs.length
 ·rw[if_pos h];exact⟨fun e=>absurd e (by decide),fun e=>absurd e.1 (by omega)⟩
 ·rw[if_neg h,yju];exact⟨fun e=>⟨by omega,e⟩,fun e=>e.2⟩
def yf0 (c:Cel):Prop:=I64 c.f1∧Bys c.f2∧c.f2.length≤140737488355328
def yd6 (kind:Int):Prop:=1≤kind∧kind≤8
def ycz (kind codec:Int):Prop:=codec=1∨(kind≤6∧(codec=2∨codec=3))∨(6<kind∧(codec=4∨codec=5))
instance (kind codec:Int):Decidable (ycz kind codec):=by unfold ycz;infer_instance
def yde (cs:List Cel):List Cel:=cs.filter fun c=>!c.f0
def ydc (cs:List Cel):List Int:=(yde cs).map (·.f1)
def yb2 (cs:List Cel):List (List Int):=(yde cs).map (·.f2)
def yei (kind:Int) (c:Cel):List Int:=if kind≤6 then vput (ydh c.f1) else vput c.f2.length++c.f2
def ydv (kind:Int) (cs:List Cel):List Int:=((yde cs).map (yei kind)).flatten
def ydk (kind codec:Int) (cs:List Cel):List Int×Int:=
 if codec=2 then ye9 (ydc cs) else if codec=3 then yf2 (ydc cs) else if codec=4 then encS (yb2 cs) else if codec=5 then ye5 (yb2 cs) else (ydv kind cs,0)
def yc8 (c:Cel):Int:=if c.f0=true then 1 else 0
def ye6 (cs:List Cel):List Int:=if ∃ c∈cs,c.f0=true then 1::yed 1 (cs.map yc8) else [0]
def ye7 (codec:Int) (cs:List Cel):List Int:=codec::(vput cs.length++ye6 cs)
def yfh (kind codec:Int) (cs:List Cel):List Int×Int:=
 if (ydk kind codec cs).2≠0 then ([],(ydk kind codec cs).2) else
 if 65000<(ye7 codec cs).length+(ydk kind codec cs).1.length+4 then ([],4) else (ye8 (ye7 codec cs++(ydk kind codec cs).1),0)
def yf3 (kind codec:Int) (cs:List Cel):List Int×Int:=
 if kind<1∨8<kind then ([],1) else if ¬ ycz kind codec then ([],120) else if yc0 kind cs≠0 then ([],yc0 kind cs) else yfh kind codec cs
def ygf (kind:Int) (cs:List Cel):Nat→Int→Int→List Int→Int×List Int
 | 0,_,k,b=>(k,b)
 | n+1,c,k,b =>
  if ycz kind c then (if (yfh kind c cs).2=0∧(k=0∨(yfh kind c cs).1.length<b.length) then ygf kind cs n (c+1) c (yfh kind c cs).1 else ygf kind cs n (c+1) k b)
  else ygf kind cs n (c+1) k b
def ygy (kind:Int) (cs:List Cel):Int×List Int×Int:=
 if kind<1∨8<kind then (0,[],1) else if yc0 kind cs≠0 then (0,[],yc0 kind cs) else
 if (ygf kind cs 5 1 0 []).1=0 then (0,[],4) else ((ygf kind cs 5 1 0 []).1,(ygf kind cs 5 1 0 []).2,0)
def ybt (b:List Int) (p n:Nat):List Int×Nat×Int:=
 if b.length≤p then ([],0,2) else if 1<b.getD p 0 then ([],0,5) else if b.getD p 0=0 then (List.replicate n 0,p+1,0) else
 if b.length-p-1<(n+7) / 8 then ([],0,2) else
 if (ybq ((b.drop (p+1)).take ((n+7) / 8)) 1 n).2≠0 then ([],0,(ybq ((b.drop (p+1)).take ((n+7) / 8)) 1 n).2) else
 if widS (ybq ((b.drop (p+1)).take ((n+7) / 8)) 1 n).1=0 then ([],0,5) else ((ybq ((b.drop (p+1)).take ((n+7) / 8)) 1 n).1,p+1+(n+7) / 8,0)
def yds (v:Int):Cel:=⟨false,v,[]⟩
def ycw (s:List Int):Cel:=⟨false,0,s⟩
def ydd (kind:Int) (b:List Int):Nat→Nat→List Cel→List Cel×Nat×Int
 | 0,p,out=>(out,p,0)
 | n+1,p,out =>
  if (vget b p).2.2≠0 then ([],0,(vget b p).2.2) else
  if kind≤6 then ydd kind b n (vget b p).2.1 (out++[yds (ycy (vget b p).1)]) else
  if 200<(vget b p).1 then ([],0,4) else if b.length-(vget b p).2.1<(vget b p).1 then ([],0,2) else
  ydd kind b n ((vget b p).2.1+(vget b p).1) (out++[ycw ((b.drop (vget b p).2.1).take (vget b p).1)])
def yfy (kind:Int) (b:List Int) (n:Nat):List Cel×Int:=
 if (ydd kind b n 0 []).2.2≠0 then ([],(ydd kind b n 0 []).2.2) else if (ydd kind b n 0 []).2.1<b.length then ([],3) else ((ydd kind b n 0 []).1,0)
def ybv (l:List Cel) (e:Int) (n:Nat):List Cel×Int:=if e≠0 then ([],e) else if l.length≠n then ([],5) else (l,0)
def ybi (kind codec:Int) (b:List Int) (n:Nat):List Cel×Int:=
 if codec=1 then yfy kind b n else
 if codec=2 then ybv ((ydj b).1.map yds) (ydj b).2 n else
 if codec=3 then ybv ((yet b).1.map yds) (yet b).2 n else
 if codec=4 then ybv ((decS b).1.map ycw) (decS b).2 n else ybv ((ydr b).1.map ycw) (ydr b).2 n
def yex:Cel:=⟨true,0,[]⟩
def yc4:List Int→List Cel→List Cel
 | [],_=>[]
 | u::us,vs=>if u=1 then yex::yc4 us vs else vs.headD yex::yc4 us vs.tail
def ya8 (us:List Int):Nat:=us.count 0
def yfs (kind:Int) (b:List Int):List Cel×Int:=
 if b.length=0 then ([],2) else
 if ¬ ycz kind (b.getD 0 0) then ([],120) else
 if (vget b 1).2.2≠0 then ([],(vget b 1).2.2) else
 if 4096<(vget b 1).1 then ([],4) else
 if (ybt b (vget b 1).2.1 (vget b 1).1).2.2≠0 then ([],(ybt b (vget b 1).2.1 (vget b 1).1).2.2) else
 if (ybi kind (b.getD 0 0) (b.drop (ybt b (vget b 1).2.1 (vget b 1).1).2.1) (ya8 (ybt b (vget b 1).2.1 (vget b 1).1).1)).2≠0 then ([],(ybi kind (b.getD 0 0) (b.drop (ybt b (vget b 1).2.1 (vget b 1).1).2.1) (ya8 (ybt b (vget b 1).2.1 (vget b 1).1).1)).2) else
 if yc0 kind (yc4 (ybt b (vget b 1).2.1 (vget b 1).1).1 (ybi kind (b.getD 0 0) (b.drop (ybt b (vget b 1).2.1 (vget b 1).1).2.1) (ya8 (ybt b (vget b 1).2.1 (vget b 1).1).1)).1)≠0 then ([],yc0 kind (yc4 (ybt b (vget b 1).2.1 (vget b 1).1).1 (ybi kind (b.getD 0 0) (b.drop (ybt b (vget b 1).2.1 (vget b 1).1).2.1) (ya8 (ybt b (vget b 1).2.1 (vget b 1).1).1)).1)) else
 (yc4 (ybt b (vget b 1).2.1 (vget b 1).1).1 (ybi kind (b.getD 0 0) (b.drop (ybt b (vget b 1).2.1 (vget b 1).1).2.1) (ya8 (ybt b (vget b 1).2.1 (vget b 1).1).1)).1,0)
def ydx (kind:Int) (b:List Int):List Cel×Int:=
 if kind<1∨8<kind then ([],1) else if 65000<b.length then ([],4) else if yc9 b=false then ([],6) else yfs kind (b.take (b.length-4))
theorem yer {cs:List Cel} {c:Cel}:c∈yde cs↔c∈cs∧c.f0=false:=by unfold yde;simp
theorem ykc (cs:List Cel):Fit 1 (cs.map yc8):=by
 intro u hu
 obtain⟨c,_,rfl⟩:=List.mem_map.1 hu
 unfold yc8
 split <;> decide
theorem widS_one {us:List Int} (h:Fit 1 us) (h1:(1:Int)∈us):widS us≠0:=by
 intro e
 have hf:=(ylj (w:=0) (Fit.u64 (by decide) h) (by decide)).1 (by omega)
 have:=(hf 1 h1).2
 exact absurd this (by decide)
theorem widS_zero {us:List Int} (h:Fit 1 us) (h1:widS us≠0):(1:Int)∈us:=by
 refine Decidable.byContradiction fun hn=>h1 ?_
 have:Fit 0 us:=by
  intro u hu
  have h2:=h u hu
  have h3:u≠1:=fun e=>hn (e▸hu)
  have h4:((2:Int)^1)=2:=rfl
  have h5:((2:Int)^0)=1:=rfl
  omega
 have:=(ylj (w:=0) (Fit.u64 (by decide) h) (by decide)).2 this
 omega
theorem nulls_fwd {b Y:List Int} {p:Nat} {cs:List Cel} (h:b.drop p=ye6 cs++Y):ybt b p cs.length=(cs.map yc8,p+(ye6 cs).length,0):=by
 unfold ye6 at h ⊢
 by_cases hn:∃ c∈cs,c.f0=true
 ·rw[if_pos hn] at h ⊢
  rw[List.cons_append] at h
  obtain⟨h1,h2,h3⟩:=yky h
  have hl:(yed 1 (cs.map yc8)).length=(cs.length+7) / 8:=by rw[yin,List.length_map,Nat.one_mul]
  have ht:(b.drop (p+1)).take ((cs.length+7) / 8)=yed 1 (cs.map yc8):=by rw[h3,List.take_append_of_le_length (by omega),List.take_of_length_le (by omega)]
  have hle:(cs.length+7) / 8≤b.length-p-1:=by
   have:=congrArg List.length h3
   rw[List.length_drop,List.length_append,hl] at this
   omega
  have hu:=yi3 (ykc cs)
  rw[List.length_map] at hu
  have hw:widS (cs.map yc8)≠0:=widS_one (ykc cs) (by obtain⟨c,hc,e⟩:=hn;exact List.mem_map.2 ⟨c,hc,by unfold yc8;rw[if_pos e]⟩)
  unfold ybt
  rw[if_neg (by omega),h2,if_neg (by decide),if_neg (by decide),if_neg (by omega),ht,hu]
  simp only
  rw[if_neg (by simp),if_neg hw,List.length_cons,hl]
  rw[Prod.mk.injEq,Prod.mk.injEq]
  exact⟨rfl,by omega,rfl⟩
 ·rw[if_neg hn] at h ⊢
  rw[List.cons_append] at h
  obtain⟨h1,h2,h3⟩:=yky h
  unfold ybt
  rw[if_neg (by omega),h2,if_neg (by decide),if_pos rfl]
  rw[Prod.mk.injEq,Prod.mk.injEq]
  refine⟨?_,rfl,rfl⟩
  refine(List.eq_replicate_iff.2 ⟨by simp,fun u hu=>?_⟩).symm
  obtain⟨c,hc,rfl⟩:=List.mem_map.1 hu
  unfold yc8
  rw[if_neg fun e=>hn ⟨c,hc,e⟩]
theorem yj2 {b:List Int} (hb:Bys b) {p n:Nat} (h:(ybt b p n).2.2=0) :
  (ybt b p n).1.length=n∧(∀ u∈(ybt b p n).1,u=0∨u=1)∧(ybt b p n).2.1≤b.length∧b.drop p=(if (1:Int)∈(ybt b p n).1 then 1::yed 1 (ybt b p n).1 else [0])++b.drop (ybt b p n).2.1:=by
 unfold ybt at h ⊢
 by_cases h1:b.length≤p
 ·rw[if_pos h1] at h;exact absurd h (by decide)
 rw[if_neg h1] at h ⊢
 have hp:b.getD p 0=b[p]:=by rw[List.getD_eq_getElem?_getD,List.getElem?_eq_getElem (by omega),Option.getD_some]
 have hx:=hb b[p] (List.getElem_mem _)
 rw[hp] at h ⊢
 have hdc:b.drop p=b[p]::b.drop (p+1):=List.drop_eq_getElem_cons _
 by_cases h2:1<b[p]
 ·rw[if_pos h2] at h;exact absurd h (by decide)
 rw[if_neg h2] at h ⊢
 by_cases h3:b[p]=0
 ·rw[if_pos h3]
  refine⟨by simp,fun u hu=>.inl (List.eq_of_mem_replicate hu),by simp only;omega,?_⟩
  rw[if_neg (fun hm=>absurd (List.eq_of_mem_replicate hm) (by decide)),hdc,h3]
  rfl
 rw[if_neg h3] at h ⊢
 have h1p:b[p]=1:=by omega
 by_cases h4:b.length-p-1<(n+7) / 8
 ·rw[if_pos h4] at h;exact absurd h (by decide)
 rw[if_neg h4] at h ⊢
 by_cases h5:(ybq ((b.drop (p+1)).take ((n+7) / 8)) 1 n).2=0
 rotate_left
 ·rw[if_pos h5] at h;exact absurd h h5
 rw[if_neg (by simpa using h5)] at h ⊢
 by_cases h6:widS (ybq ((b.drop (p+1)).take ((n+7) / 8)) 1 n).1=0
 ·rw[if_pos h6] at h;exact absurd h (by decide)
 rw[if_neg h6]
 simp only
 obtain⟨k1,k2,k3⟩:=ygp ((hb.drop (p+1)).take ((n+7) / 8)) (us:=(ybq ((b.drop (p+1)).take ((n+7) / 8)) 1 n).1) (Prod.ext rfl h5)
 refine⟨k1,fun u hu=>?_,by omega,?_⟩
 ·have:=k2 u hu
  have h7:((2:Int)^1)=2:=rfl
  omega
 ·rw[if_pos (widS_zero k2 h6),k3,hdc,h1p,List.cons_append,show b.drop (p+1+(n+7) / 8)=(b.drop (p+1)).drop ((n+7) / 8) from by rw[List.drop_drop],List.take_append_drop]
theorem nullsS_of {cs:List Cel} {us:List Int} (h:cs.map yc8=us):ye6 cs=if (1:Int)∈us then 1::yed 1 us else [0]:=by
 subst h
 unfold ye6
 have:(∃ c∈cs,c.f0=true)↔(1:Int)∈cs.map yc8:=by
  rw[List.mem_map]
  constructor
  ·rintro⟨c,hc,e⟩;exact⟨c,hc,by unfold yc8;rw[if_pos e]⟩
  ·rintro⟨c,hc,e⟩
   refine⟨c,hc,?_⟩
   unfold yc8 at e
   split at e
   ·assumption
   ·exact absurd e (by decide)
 by_cases hh:(1:Int)∈cs.map yc8
 ·rw[if_pos hh,if_pos (this.2 hh)]
 ·rw[if_neg hh,if_neg (fun e=>hh (this.1 e))]
theorem yn9 (cs:List Cel):ya8 (cs.map yc8)=(yde cs).length:=by
 induction cs with
 | nil=>rfl
 | cons c cs ih =>
  unfold ya8 yde at ih ⊢
  rw[List.map_cons,List.count_cons,List.filter_cons,ih]
  unfold yc8
  cases c.f0 <;> simp
theorem ypo {cs:List Cel} (h:∀ c∈cs,c.f0=true→c=yex):yc4 (cs.map yc8) (yde cs)=cs:=by
 induction cs with
 | nil=>rfl
 | cons c cs ih =>
  have ih:=ih (fun d hd=>h d (by simp [hd]))
  rw[List.map_cons]
  cases hc:c.f0 with
  | true =>
   have e1:yc8 c=1:=by unfold yc8;rw[if_pos hc]
   have e2:yde (c::cs)=yde cs:=by unfold yde;rw[List.filter_cons,if_neg (by simp [hc])]
   rw[e1,e2,yc4,if_pos rfl,ih,← h c (by simp) hc]
  | false =>
   have e1:yc8 c=0:=by unfold yc8;rw[if_neg (by simp [hc])]
   have e2:yde (c::cs)=c::yde cs:=by unfold yde;rw[List.filter_cons,if_pos (by simp [hc])]
   rw[e1,e2,yc4,if_neg (by decide),List.headD_cons,List.tail_cons,ih]
theorem yi6:∀ {us:List Int} {vs:List Cel},(∀ u∈us,u=0∨u=1)→(∀ v∈vs,v.f0=false)→vs.length=ya8 us→(yc4 us vs).map yc8=us∧yde (yc4 us vs)=vs∧(yc4 us vs).length=us.length
 | [],vs,_,_,hl=>by
  have:vs=[]:=List.eq_nil_of_length_eq_zero (by rw[hl];rfl)
  subst this
  exact⟨rfl,rfl,rfl⟩
 | u::us,vs,hu,hv,hl=>by
  rcases hu u (by simp) with rfl|rfl
  ·cases vs with
   | nil=>simp [ya8] at hl
   | cons v vs =>
    have h0:=hv v (by simp)
    obtain⟨i1,i2,i3⟩:=yi6 (us:=us) (vs:=vs) (fun x hx=>hu x (by simp [hx])) (fun x hx=>hv x (by simp [hx])) (by unfold ya8 at hl ⊢;simp at hl;exact hl)
    rw[yc4,if_neg (by decide),List.headD_cons,List.tail_cons]
    refine⟨by rw[List.map_cons,i1];unfold yc8;rw[if_neg (by simp [h0])],?_,by simp [i3]⟩
    unfold yde at i2 ⊢
    rw[List.filter_cons,if_pos (by simp [h0]),i2]
  ·obtain⟨i1,i2,i3⟩:=yi6 (us:=us) (vs:=vs) (fun x hx=>hu x (by simp [hx])) hv (by unfold ya8 at hl ⊢;simp at hl;exact hl)
   rw[yc4,if_pos rfl]
   refine⟨by rw[List.map_cons,i1];rfl,?_,by simp [i3]⟩
   unfold yde at i2 ⊢
   rw[List.filter_cons,if_neg (by simp [yex]),i2]
def yda (kind:Int) (c:Cel):Prop:=if kind≤6 then c=yds c.f1∧I64 c.f1 else c=ycw c.f2∧c.f2.length≤200
theorem yjj {kind:Int} {c:Cel} (h:ydu kind c=0) (ok:yf0 c) (h0:c.f0=false):yda kind c:=by
 unfold ydu at h
 unfold yda
 split at h
 ·exact absurd h (by decide)
 rw[if_neg (by simp [h0])] at h
 obtain⟨f0,f1,f2⟩:=c
 simp only at h0 h ⊢
 subst h0
 by_cases hk:kind≤6
 ·rw[if_pos hk] at h ⊢
  by_cases hl:0<f2.length
  ·rw[if_pos hl] at h;exact absurd h (by decide)
  ·have:f2=[]:=List.eq_nil_of_length_eq_zero (by omega)
   subst this
   exact⟨rfl,ok.1⟩
 ·rw[if_neg hk] at h ⊢
  by_cases h1:f1=0
  ·subst h1
   rw[if_neg (by simp)] at h
   by_cases hl:200<f2.length
   ·rw[if_pos hl] at h;exact absurd h (by decide)
   ·exact⟨rfl,by omega⟩
  ·rw[if_pos h1] at h;exact absurd h (by decide)
theorem ypw {kind:Int} {c:Cel} (h:ydu kind c=0) (h0:c.f0=true):c=yex:=by
 unfold ydu at h
 by_cases hk:kind<1∨8<kind
 ·rw[if_pos hk] at h;exact absurd h (by decide)
 rw[if_neg hk,if_pos h0] at h
 obtain⟨f0,f1,f2⟩:=c
 simp only at h0 h
 subst h0
 split at h
 ·exact absurd h (by decide)
 ·rename_i hn
  have h1:f1=0:=Decidable.byContradiction fun e=>hn (.inl e)
  have h2:f2=[]:=List.eq_nil_of_length_eq_zero (Nat.eq_zero_of_not_pos fun e=>hn (.inr e))
  subst h1 h2
  rfl
theorem yrg {kind:Int} {b:List Int}:∀ (vs:List Cel) (p:Nat) (out:List Cel) (Y:List Int),(∀ c∈vs,yda kind c)→b.drop p=(vs.map (yei kind)).flatten++Y →
  ydd kind b vs.length p out=(out++vs,p+((vs.map (yei kind)).flatten).length,0):=by
 intro vs
 induction vs with
 | nil=>intro p out Y _ _;simp [ydd]
 | cons c vs ih =>
  intro p out Y hc hd
  have h0:=hc c (by simp)
  rw[List.map_cons,List.flatten_cons,List.append_assoc] at hd
  rw[List.length_cons,ydd,List.map_cons,List.flatten_cons]
  unfold yda at h0
  by_cases hk:kind≤6
  ·rw[if_pos hk] at h0
   obtain⟨h1,h2⟩:=h0
   have e:yei kind c=vput (ydh c.f1):=by unfold yei;rw[if_pos hk]
   rw[e] at hd ⊢
   have g:=yfk (ygc h2) hd
   rw[g]
   simp only
   rw[if_neg (by simp),if_pos hk,yi7,← h1,ih _ _ Y (fun d hd=>hc d (by simp [hd])) (yd9 hd)]
   simp
   omega
  ·rw[if_neg hk] at h0
   obtain⟨h1,h2⟩:=h0
   have e:yei kind c=vput c.f2.length++c.f2:=by unfold yei;rw[if_neg hk]
   rw[e] at hd ⊢
   rw[List.append_assoc] at hd
   have g:=yfk (by omega) hd
   have hd2:=yd9 hd
   have hle:c.f2.length≤b.length-(p+(vput c.f2.length).length):=by
    have:=congrArg List.length hd2
    rw[List.length_drop,List.length_append] at this
    omega
   rw[g]
   simp only
   rw[if_neg (by simp),if_neg hk,if_neg (by omega),if_neg (by omega),hd2,List.take_append_of_le_length (Nat.le_refl _),List.take_of_length_le (Nat.le_refl _),← h1,ih _ _ Y (fun d hd=>hc d (by simp [hd])) (yd9 hd2)]
   simp
   omega
theorem yqh {kind:Int} {b:List Int} (hb:Bys b):∀ (n p:Nat) (out:List Cel),p≤b.length→(ydd kind b n p out).2.2=0 →
  ∃ vs,vs.length=n∧(∀ c∈vs,yda kind c∧c.f0=false)∧(ydd kind b n p out).1=out++vs∧(ydd kind b n p out).2.1≤b.length∧b.drop p=(vs.map (yei kind)).flatten++b.drop (ydd kind b n p out).2.1:=by
 intro n
 induction n with
 | zero=>intro p out hp h;exact⟨[],rfl,fun c hc=>(by cases hc),by simp [ydd],hp,by simp [ydd]⟩
 | succ n ih =>
  intro p out hp h
  rw[ydd] at h ⊢
  rcases hg:vget b p with ⟨u,q,e⟩
  rw[hg] at h
  simp only at h ⊢
  by_cases he:e=0
  rotate_left
  ·rw[if_pos he] at h;exact absurd h he
  subst he
  rw[if_neg (by simp)] at h ⊢
  obtain⟨k1,k2,k3⟩:=yef hb hg
  have hu:u<18446744073709551616:=by have:=ydz hb (p:=p) (by rw[hg]);rw[hg] at this;exact this
  by_cases hk:kind≤6
  ·rw[if_pos hk] at h ⊢
   obtain⟨vs,e1,e2,e3,e4,e5⟩:=ih q _ k2 h
   refine⟨yds (ycy u)::vs,by simp [e1],fun c hc=>?_,by rw[e3];simp,e4,?_⟩
   ·rcases List.mem_cons.1 hc with rfl|hc
    ·exact⟨by unfold yda;rw[if_pos hk];exact⟨rfl,ygv hu⟩,rfl⟩
    ·exact e2 c hc
   ·rw[List.map_cons,List.flatten_cons,List.append_assoc,← e5]
    unfold yei
    rw[if_pos hk]
    show _=vput (ydh (ycy u))++_
    rw[yi5,k3]
  ·rw[if_neg hk] at h ⊢
   by_cases h2:200<u
   ·rw[if_pos h2] at h;exact absurd h (by decide)
   rw[if_neg h2] at h ⊢
   by_cases h3:b.length-q<u
   ·rw[if_pos h3] at h;exact absurd h (by decide)
   rw[if_neg h3] at h ⊢
   obtain⟨vs,e1,e2,e3,e4,e5⟩:=ih (q+u) _ (by omega) h
   have hl:((b.drop q).take u).length=u:=by rw[List.length_take,List.length_drop];omega
   refine⟨ycw ((b.drop q).take u)::vs,by simp [e1],fun c hc=>?_,by rw[e3];simp,e4,?_⟩
   ·rcases List.mem_cons.1 hc with rfl|hc
    ·exact⟨by unfold yda;rw[if_neg hk];exact⟨rfl,by show((b.drop q).take u).length≤200;omega⟩,rfl⟩
    ·exact e2 c hc
   ·rw[List.map_cons,List.flatten_cons,List.append_assoc,← e5]
    unfold yei
    rw[if_neg hk]
    show _=(vput ((b.drop q).take u).length++(b.drop q).take u)++_
    rw[hl,k3,List.append_assoc,← List.drop_drop,List.take_append_drop]
theorem ym5 {kind:Int} {vs:List Cel} (hk:kind≤6) (h:∀ c∈vs,yda kind c):(vs.map (·.f1)).map yds=vs:=by
 rw[List.map_map]
 conv=>rhs;rw[← List.map_id vs]
 refine List.map_congr_left fun c hc=>?_
 have:=h c hc
 unfold yda at this
 rw[if_pos hk] at this
 exact this.1.symm
theorem ymb {kind:Int} {vs:List Cel} (hk:¬ kind≤6) (h:∀ c∈vs,yda kind c):(vs.map (·.f2)).map ycw=vs:=by
 rw[List.map_map]
 conv=>rhs;rw[← List.map_id vs]
 refine List.map_congr_left fun c hc=>?_
 have:=h c hc
 unfold yda at this
 rw[if_neg hk] at this
 exact this.1.symm
theorem yeu (l:List Cel) (n:Nat) (h:l.length=n):ybv l 0 n=(l,0):=by
 unfold ybv
 rw[if_neg (by simp),if_neg (by simp [h])]
theorem ynj {kind codec:Int} {cs:List Cel} (hf:ycz kind codec) (hl:cs.length≤4096) (hc:∀ c∈yde cs,yda kind c) :
  (ydk kind codec cs).2=0∧ybi kind codec (ydk kind codec cs).1 (yde cs).length=(yde cs,0):=by
 have htl:(yde cs).length≤cs.length:=List.length_filter_le _ _
 have hnl:(ydc cs).length=(yde cs).length:=by unfold ydc;rw[List.length_map]
 have hxl:(yb2 cs).length=(yde cs).length:=by unfold yb2;rw[List.length_map]
 unfold ydk ybi
 rcases hf with rfl|⟨hk,rfl|rfl⟩|⟨hk,rfl|rfl⟩
 ·simp only[show ¬ ((1:Int)=2) by decide,show ¬ ((1:Int)=3) by decide,show ¬ ((1:Int)=4) by decide,show ¬ ((1:Int)=5) by decide,if_false,if_true]
  refine⟨trivial,?_⟩
  unfold yfy
  have:=yrg (kind:=kind) (b:=ydv kind cs) (yde cs) 0 [] [] hc (by rw[List.append_nil];rfl)
  rw[this]
  simp only
  rw[if_neg (by simp),if_neg (by unfold ydv;omega)]
  rfl
 ·simp only[show ¬ ((2:Int)=1) by decide,if_false,if_true]
  have hi:∀ v∈ydc cs,I64 v:=by
   intro v hv
   obtain⟨c,hc',rfl⟩:=List.mem_map.1 hv
   have:=hc c hc'
   unfold yda at this
   rw[if_pos hk] at this
   exact this.2
  refine⟨by unfold ye9;rw[if_pos (by omega)],?_⟩
  rw[ypk (by omega) hi]
  simp only
  unfold ydc
  rw[ym5 hk hc]
  exact yeu _ _ rfl
 ·simp only[show ¬ ((3:Int)=1) by decide,show ¬ ((3:Int)=2) by decide,if_false,if_true]
  have hi:∀ v∈ydc cs,I64 v:=by
   intro v hv
   obtain⟨c,hc',rfl⟩:=List.mem_map.1 hv
   have:=hc c hc'
   unfold yda at this
   rw[if_pos hk] at this
   exact this.2
  refine⟨by unfold yf2;rw[if_neg (by omega)];split <;> rfl,?_⟩
  rw[dec_encPk (by omega) hi]
  simp only
  unfold ydc
  rw[ym5 hk hc]
  exact yeu _ _ rfl
 ·simp only[show ¬ ((4:Int)=1) by decide,show ¬ ((4:Int)=2) by decide,show ¬ ((4:Int)=3) by decide,if_false,if_true]
  have hx:∀ s∈yb2 cs,s.length≤200:=by
   intro v hv
   obtain⟨c,hc',rfl⟩:=List.mem_map.1 hv
   have:=hc c hc'
   unfold yda at this
   rw[if_neg (by omega)] at this
   exact this.2
  have hid:(idx (yb2 cs)).2.2=0:=by
   unfold idx
   rw[if_neg]
   rintro(h|⟨s,hs,h⟩)
   ·omega
   ·have:=hx s hs;omega
  refine⟨by unfold encS;rw[if_pos hid],?_⟩
  rw[dec_enc hid]
  simp only
  unfold yb2
  rw[ymb (by omega) hc]
  exact yeu _ _ rfl
 ·simp only[show ¬ ((5:Int)=1) by decide,show ¬ ((5:Int)=2) by decide,show ¬ ((5:Int)=3) by decide,show ¬ ((5:Int)=4) by decide,if_false,if_true]
  have hx:∀ s∈yb2 cs,s.length≤200:=by
   intro v hv
   obtain⟨c,hc',rfl⟩:=List.mem_map.1 hv
   have:=hc c hc'
   unfold yda at this
   rw[if_neg (by omega)] at this
   exact this.2
  have hid:(ye5 (yb2 cs)).2=0:=by
   unfold ye5
   rw[if_neg]
   rintro(h|⟨s,hs,h⟩)
   ·omega
   ·have:=hx s hs;omega
  refine⟨hid,?_⟩
  rw[yrl hid]
  simp only
  unfold yb2
  rw[ymb (by omega) hc]
  exact yeu _ _ rfl
theorem yf5 {l:List Cel} {e:Int} {n:Nat} (h:(ybv l e n).2=0):e=0∧l.length=n∧ybv l e n=(l,0):=by
 unfold ybv at h ⊢
 by_cases he:e=0
 ·rw[if_neg (by simpa using he)] at h ⊢
  by_cases hl:l.length=n
  ·rw[if_neg (by simpa using hl)];exact⟨he,hl,rfl⟩
  ·rw[if_pos hl] at h;exact absurd h (by decide)
 ·rw[if_pos he] at h;exact absurd h he
theorem map_f1 (l:List Int):(l.map yds).map (·.f1)=l:=by rw[List.map_map];exact List.map_id _
theorem map_f2 (l:List (List Int)):(l.map ycw).map (·.f2)=l:=by rw[List.map_map];exact List.map_id _
theorem ykk {kind codec:Int} {b:List Int} (hb:Bys b) {n:Nat} (hf:ycz kind codec) (h:(ybi kind codec b n).2=0) :
  (ybi kind codec b n).1.length=n∧(∀ c∈(ybi kind codec b n).1,c.f0=false)∧∀ cs:List Cel,yde cs=(ybi kind codec b n).1→ydk kind codec cs=(b,0):=by
 unfold ybi at h ⊢
 rcases hf with rfl|⟨hk,rfl|rfl⟩|⟨hk,rfl|rfl⟩
 ·simp only[if_true] at h ⊢
  unfold yfy at h ⊢
  by_cases h1:(ydd kind b n 0 []).2.2=0
  rotate_left
  ·rw[if_pos h1] at h;exact absurd h h1
  rw[if_neg (by simpa using h1)] at h ⊢
  by_cases h2:(ydd kind b n 0 []).2.1<b.length
  ·rw[if_pos h2] at h;exact absurd h (by decide)
  rw[if_neg h2]
  simp only
  obtain⟨vs,e1,e2,e3,e4,e5⟩:=yqh hb n 0 [] (by omega) h1
  rw[List.nil_append] at e3
  rw[e3]
  refine⟨e1,fun c hc=>(e2 c hc).2,fun cs hcs=>?_⟩
  unfold ydk
  simp only[show ¬ ((1:Int)=2) by decide,show ¬ ((1:Int)=3) by decide,show ¬ ((1:Int)=4) by decide,show ¬ ((1:Int)=5) by decide,if_false]
  rw[Prod.mk.injEq]
  refine⟨?_,rfl⟩
  unfold ydv
  rw[hcs]
  have e6:b.drop 0=b:=rfl
  rw[e6,List.drop_eq_nil_of_le (show b.length≤(ydd kind b n 0 []).2.1 by omega),List.append_nil] at e5
  exact e5.symm
 ·simp only[show ¬ ((2:Int)=1) by decide,if_false,if_true] at h ⊢
  obtain⟨h1,h2,h3⟩:=yf5 h
  rw[h3]
  refine⟨h2,fun c hc=>by obtain⟨v,_,rfl⟩:=List.mem_map.1 hc;rfl,fun cs hcs=>?_⟩
  unfold ydk ydc
  rw[if_pos rfl,hcs]
  simp only
  rw[map_f1]
  exact(yja hb h1).1
 ·simp only[show ¬ ((3:Int)=1) by decide,show ¬ ((3:Int)=2) by decide,if_false,if_true] at h ⊢
  obtain⟨h1,h2,h3⟩:=yf5 h
  rw[h3]
  refine⟨h2,fun c hc=>by obtain⟨v,_,rfl⟩:=List.mem_map.1 hc;rfl,fun cs hcs=>?_⟩
  unfold ydk ydc
  rw[if_neg (by decide),if_pos rfl,hcs]
  simp only
  rw[map_f1]
  exact(ykb hb h1).1
 ·simp only[show ¬ ((4:Int)=1) by decide,show ¬ ((4:Int)=2) by decide,show ¬ ((4:Int)=3) by decide,if_false,if_true] at h ⊢
  obtain⟨h1,h2,h3⟩:=yf5 h
  rw[h3]
  refine⟨h2,fun c hc=>by obtain⟨v,_,rfl⟩:=List.mem_map.1 hc;rfl,fun cs hcs=>?_⟩
  unfold ydk yb2
  rw[if_neg (by decide),if_neg (by decide),if_pos rfl,hcs]
  simp only
  rw[map_f2]
  exact enc_dec hb h1
 ·simp only[show ¬ ((5:Int)=1) by decide,show ¬ ((5:Int)=2) by decide,show ¬ ((5:Int)=3) by decide,show ¬ ((5:Int)=4) by decide,if_false] at h ⊢
  obtain⟨h1,h2,h3⟩:=yf5 h
  rw[h3]
  refine⟨h2,fun c hc=>by obtain⟨v,_,rfl⟩:=List.mem_map.1 hc;rfl,fun cs hcs=>?_⟩
  unfold ydk yb2
  rw[if_neg (by decide),if_neg (by decide),if_neg (by decide),if_pos rfl,hcs]
  simp only
  rw[map_f2]
  exact(yjp hb h1).1
theorem ym9 {kind codec:Int} {cs:List Cel} (h:(yf3 kind codec cs).2=0) :
  yd6 kind∧ycz kind codec∧yc0 kind cs=0∧(ydk kind codec cs).2=0∧(ye7 codec cs).length+(ydk kind codec cs).1.length+4≤65000∧(yf3 kind codec cs)=(ye8 (ye7 codec cs++(ydk kind codec cs).1),0)∧yfh kind codec cs=yf3 kind codec cs:=by
 unfold yf3 at h ⊢
 by_cases h1:kind<1∨8<kind
 ·rw[if_pos h1] at h;exact absurd h (by decide)
 rw[if_neg h1] at h ⊢
 by_cases h2:ycz kind codec
 rotate_left
 ·rw[if_pos h2] at h;exact absurd h (by decide)
 rw[if_neg (by simpa using h2)] at h ⊢
 by_cases h3:yc0 kind cs=0
 rotate_left
 ·rw[if_pos h3] at h;exact absurd h h3
 rw[if_neg (by simpa using h3)] at h ⊢
 unfold yfh at h ⊢
 by_cases h4:(ydk kind codec cs).2=0
 rotate_left
 ·rw[if_pos h4] at h;exact absurd h h4
 rw[if_neg (by simpa using h4)] at h ⊢
 by_cases h5:65000<(ye7 codec cs).length+(ydk kind codec cs).1.length+4
 ·rw[if_pos h5] at h;exact absurd h (by decide)
 rw[if_neg h5]
 exact⟨⟨by omega,by omega⟩,h2,h3,h4,by omega,rfl,rfl⟩
theorem yqy {kind codec:Int} {cs:List Cel} (hok:∀ c∈cs,yf0 c) (h:(yf3 kind codec cs).2=0):ydx kind (yf3 kind codec cs).1=(cs,0):=by
 obtain⟨hk,hf,hc,hb,hl,he,_⟩:=ym9 h
 obtain⟨hcl,hcc⟩:=yhm.1 hc
 rw[he]
 simp only
 have hlen:(ye7 codec cs++(ydk kind codec cs).1).length+4≤65000:=by rw[List.length_append];exact hl
 unfold ydx
 rw[if_neg (by unfold yd6 at hk;omega),if_neg (by rw[ykh];omega),if_neg (by rw[yp4];decide)]
 have ht:(ye8 (ye7 codec cs++(ydk kind codec cs).1)).take ((ye8 (ye7 codec cs++(ydk kind codec cs).1)).length-4)=ye7 codec cs++(ydk kind codec cs).1:=by
  rw[ykh,Nat.add_sub_cancel]
  unfold ye8
  rw[List.take_append_of_le_length (Nat.le_refl _),List.take_of_length_le (Nat.le_refl _)]
 rw[ht]
 generalize hB:ye7 codec cs++(ydk kind codec cs).1=B
 have hd0:B.drop 0=codec::(vput cs.length++(ye6 cs++(ydk kind codec cs).1)):=by rw[← hB];unfold ye7;simp
 obtain⟨k1,k2,k3⟩:=yky hd0
 have g:=yfk (by omega) k3
 have hd1:=yd9 k3
 have hn:=nulls_fwd hd1
 have hd2:=yd9 hd1
 obtain⟨_,hcd⟩:=ynj hf hcl (fun c hc=>yjj (hcc c (yer.1 hc).1) (hok c (yer.1 hc).1) (yer.1 hc).2)
 unfold yfs
 rw[if_neg (by omega),k2,if_neg (by simpa using hf),Nat.zero_add] at *
 rw[g]
 simp only
 rw[if_neg (by simp),if_neg (by omega),hn]
 simp only
 rw[if_neg (by simp),hd2,yn9,hcd]
 simp only
 rw[if_neg (by simp),ypo (fun c hc h0=>ypw (hcc c hc) h0),if_neg (by simpa using hc)]
theorem decBlk_ok {kind:Int} {b:List Int} (hb:Bys b) (h:(ydx kind b).2=0):yf3 kind (b.getD 0 0) (ydx kind b).1=(b,0)∧5≤b.length:=by
 unfold ydx at h ⊢
 by_cases h1:kind<1∨8<kind
 ·rw[if_pos h1] at h;exact absurd h (by decide)
 rw[if_neg h1] at h ⊢
 by_cases h2:65000<b.length
 ·rw[if_pos h2] at h;exact absurd h (by decide)
 rw[if_neg h2] at h ⊢
 by_cases h3:yc9 b=false
 ·rw[if_pos h3] at h;exact absurd h (by decide)
 rw[if_neg h3] at h ⊢
 obtain⟨hl4,hform⟩:=ypa (by simpa using h3)
 have hg0:4<b.length→b.getD 0 0=(b.take (b.length-4)).getD 0 0:=by
  intro hlt
  rw[List.getD_eq_getElem?_getD,List.getD_eq_getElem?_getD,List.getElem?_take_of_lt (by omega)]
 generalize hB:b.take (b.length-4)=B at h hform hg0 ⊢
 have hBb:Bys B:=hB▸hb.take _
 have hBl:B.length=b.length-4:=by rw[← hB,List.length_take];omega
 unfold yfs at h ⊢
 by_cases e1:B.length=0
 ·rw[if_pos e1] at h;exact absurd h (by decide)
 rw[if_neg e1] at h ⊢
 rw[hg0 (by omega)]
 by_cases e2:ycz kind (B.getD 0 0)
 rotate_left
 ·rw[if_pos e2] at h;exact absurd h (by decide)
 rw[if_neg (by simpa using e2)] at h ⊢
 rcases hg:vget B 1 with ⟨n,q,e⟩
 rw[hg] at h
 simp only at h ⊢
 by_cases he:e=0
 rotate_left
 ·rw[if_pos he] at h;exact absurd h he
 subst he
 rw[if_neg (by simp)] at h ⊢
 by_cases e3:4096<n
 ·rw[if_pos e3] at h;exact absurd h (by decide)
 rw[if_neg e3] at h ⊢
 by_cases e4:(ybt B q n).2.2=0
 rotate_left
 ·rw[if_pos e4] at h;exact absurd h e4
 rw[if_neg (by simpa using e4)] at h ⊢
 obtain⟨n1,n2,n3,n4⟩:=yj2 hBb e4
 generalize hus:(ybt B q n).1=us at h n1 n2 n4 ⊢
 generalize ht:(ybt B q n).2.1=t at h n3 n4 ⊢
 by_cases e5:(ybi kind (B.getD 0 0) (B.drop t) (ya8 us)).2=0
 rotate_left
 ·rw[if_pos e5] at h;exact absurd h e5
 rw[if_neg (by simpa using e5)] at h ⊢
 obtain⟨c1,c2,c3⟩:=ykk (hBb.drop t) e2 e5
 generalize hvs:(ybi kind (B.getD 0 0) (B.drop t) (ya8 us)).1=vs at h c1 c2 c3 ⊢
 obtain⟨m1,m2,m3⟩:=yi6 n2 c2 c1
 by_cases e6:yc0 kind (yc4 us vs)=0
 rotate_left
 ·rw[if_pos e6] at h;exact absurd h e6
 rw[if_neg (by simpa using e6)]
 simp only
 have hbody:=c3 _ m2
 have hhead:B=ye7 (B.getD 0 0) (yc4 us vs)++B.drop t:=by
  obtain⟨k1,k2,k3⟩:=yef hBb hg
  unfold ye7
  rw[nullsS_of m1,m3,n1,List.cons_append,List.append_assoc,← n4,← k3]
  have:B.drop 0=B.getD 0 0::B.drop 1:=by
   rw[List.drop_eq_getElem_cons (show 0<B.length by omega),List.getD_eq_getElem?_getD,List.getElem?_eq_getElem (by omega),Option.getD_some]
  exact this
 have hlen:=congrArg List.length hhead
 rw[List.length_append] at hlen
 refine⟨?_,by omega⟩
 unfold yf3
 rw[if_neg h1,if_neg (by simpa using e2),if_neg (by simpa using e6)]
 unfold yfh
 rw[hbody]
 simp only
 rw[if_neg (by simp),if_neg (by omega),← hhead,← hform]
theorem err_ite {α:Type} {c:Prop} [Decidable c] {x y:List α×Int} (hx:x.1=[]∨x.2=0) (hy:y.1=[]∨y.2=0):(if c then x else y).1=[]∨(if c then x else y).2=0:=by split <;> assumption
theorem yl8 {kind:Int} {b:List Int} (h:(ydx kind b).2≠0):(ydx kind b).1=[]:=by
 have:(ydx kind b).1=[]∨(ydx kind b).2=0:=by
  unfold ydx yfs
  repeat' (first|refine err_ite ?_ ?_|exact .inl rfl|exact .inr rfl)
 exact this.resolve_right h
end Go.Proofs.YteeikgjjgfdjgaaGreat.PK
end
section
namespace Go.Proofs.YteeikgjjgfdjgaaGreat.PK
open Go.RowKit YteeikgjjgfdjgaaGreatW.PrintWords YteeikgjjgfdjgaaGreatW.PrintLast YteeikgjjgfdjgaaGreatW.PrintMore
set_option linter.unusedVariables false
set_option linter.unusedSimpArgs false
theorem yo7 (a:Nat) (ha:a<18446744073709551616):Go.bits .xor .u64 (a:Int) 0=(a:Int):=by
 have:=bits_xor_u64_nat a 0 ha (by decide)
 simpa using this
theorem ylf {v:Int} (h:I64 v):ye0.f v=some ((ydh v:Nat):Int):=by
 obtain⟨h0,h1⟩:=h
 unfold ye0.f ydh
 congr 1
 by_cases hv:0≤v
 ·rw[if_pos hv]
  have e1:IntKind.u64.wrap (wrap64 (v*2))=((2*v.toNat:Nat):Int):=by rw[IntKind.wrap_u64];unfold wrap64;omega
  have e2:IntKind.u64.wrap (v / 9223372036854775808)=0:=by rw[show v / 9223372036854775808=0 by omega];decide
  rw[e1,e2,yo7 _ (by omega)]
 ·rw[if_neg hv]
  have e1:IntKind.u64.wrap (wrap64 (v*2))=(((2*v+18446744073709551616).toNat:Nat):Int):=by rw[IntKind.wrap_u64];unfold wrap64;omega
  have e2:IntKind.u64.wrap (v / 9223372036854775808)=((2^64-1:Nat):Int):=by rw[show v / 9223372036854775808 = -1 by omega];decide
  rw[e1,e2,bits_xor_u64_nat _ _ (by omega) (by decide),Nat.xor_comm,Lib.xor_ones64 _ (by omega)]
  omega
theorem yob (a b:Int):Go.bits .xor .i64 a b=Go.bits .xor .i64 b a:=by
 show IntKind.i64.wrap ((BitVec.ofInt 64 a ^^^ BitVec.ofInt 64 b).toNat:Int)=IntKind.i64.wrap ((BitVec.ofInt 64 b ^^^ BitVec.ofInt 64 a).toNat:Int)
 rw[BitVec.xor_comm]
theorem yn8 (x:Nat) (hx:x<9223372036854775808):Go.bits .xor .i64 (x:Int) 0=(x:Int):=by
 show IntKind.i64.wrap ((BitVec.ofInt 64 (x:Int) ^^^ BitVec.ofInt 64 0).toNat:Int)=_
 have h2:(BitVec.ofInt 64 (x:Int)).toNat=x:=by rw[BitVec.ofInt_natCast,BitVec.toNat_ofNat];exact Nat.mod_eq_of_lt (by omega)
 rw[show BitVec.ofInt 64 0=0#64 from by decide,BitVec.xor_zero,h2,IntKind.wrap_i64]
 omega
theorem yjk {u:Nat} (h:u<18446744073709551616):yfd.f (u:Int)=some (ycy u):=by
 unfold yfd.f ycy
 congr 1
 rw[Lib.u64_and1 _ (by omega) (by omega),w64 (show -9223372036854775808≤(u:Int) / 2 by omega) (by omega)]
 have e:((u:Int) / 2)=((u / 2:Nat):Int):=by omega
 rw[e]
 by_cases h0:u%2=0
 ·rw[if_pos h0,show((u:Int)%2)=0 by omega,show wrap64 (-wrap64 0)=0 from by unfold wrap64;decide,yn8 _ (by omega)]
 ·rw[if_neg h0,show((u:Int)%2)=1 by omega,show wrap64 (-wrap64 1) = -1 from by unfold wrap64;decide,yob,Lib.i64_not _ (by omega)]
theorem isNum_law (kind:Int):ybp.f kind=some (decide (1≤kind∧kind≤6)):=by
 unfold ybp.f
 by_cases h:kind≥1
 ·rw[if_pos h];simp;omega
 ·rw[if_neg h];simp;omega
theorem yhu {kind:Int} (h:yd6 kind):ybp.f kind=some (decide (kind≤6)):=by
 rw[isNum_law]
 obtain⟨h1,h2⟩:=h
 simp;omega
theorem known_law (kind:Int):yea.f kind=some (decide (1≤kind∧kind≤8)):=by
 unfold yea.f
 by_cases h:kind≥1
 ·rw[if_pos h];simp;omega
 ·rw[if_neg h];simp;omega
theorem ye4 (kind:Int):yb3.f kind=some (decide (kind<1∨8<kind)):=by
 unfold yb3.f
 by_cases h:kind<1
 ·rw[if_pos h];simp;omega
 ·rw[if_neg h];simp;omega
theorem fits_law {kind:Int} (h:yd6 kind) (codec:Int):Ev (fun k=>ybs.f k kind codec) (decide (ycz kind codec)):=by
 obtain⟨h1,h2⟩:=h
 have hn:=yhu (kind:=kind) ⟨h1,h2⟩
 by_cases e1:codec=1
 ·refine Ev.same (fun k=>?_) (Ev.now _)
  unfold ybs.f
  rw[if_pos e1]
  congr 1
  symm
  exact decide_eq_true (.inl e1)
 have key:∀ b:Bool,(b=true↔codec=2∨codec=3)→Ev (fun k=>ybs.j0 k kind codec b) (decide (ycz kind codec)):=by
  intro b hb
  refine Ev.step (fun k=>?_) (Ev.now _)
  rw[ybs.j0,hn]
  simp only[Option.bind_some]
  unfold ycz
  by_cases e:b=true
  ·rw[if_pos e]
   have:=hb.1 e
   congr 1
   refine decide_eq_decide.2 ?_
   omega
  ·rw[if_neg e]
   have e':¬ (codec=2∨codec=3):=fun h=>e (hb.2 h)
   by_cases e4:codec=4
   ·rw[if_pos e4]
    congr 1
    rw[← decide_not]
    refine decide_eq_decide.2 ?_
    omega
   ·rw[if_neg e4]
    by_cases e5:codec=5
    ·rw[if_pos e5]
     congr 1
     rw[← decide_not]
     refine decide_eq_decide.2 ?_
     omega
    ·rw[if_neg e5]
     congr 1
     symm
     refine decide_eq_false ?_
     omega
 by_cases e2:codec=2
 ·refine Ev.same (fun k=>?_) (key (codec == 2) (by simp [e2]))
  unfold ybs.f
  rw[if_neg e1,if_pos e2]
 ·refine Ev.same (fun k=>?_) (key (codec == 3) (by simp [e2]))
  unfold ybs.f
  rw[if_neg e1,if_neg e2]
theorem wrap_i8 (n:Int):IntKind.i8.wrap n=(n+128)%256-128:=by
 unfold IntKind.wrap
 simp [IntKind.bits,IntKind.signed]
 omega
theorem wrap_i16 (n:Int):IntKind.i16.wrap n=(n+32768)%65536-32768:=by
 unfold IntKind.wrap
 simp [IntKind.bits,IntKind.signed]
 omega
theorem wrap_u16c (n:Int):IntKind.u16.wrap n=n%65536:=by
 unfold IntKind.wrap
 simp [IntKind.bits,IntKind.signed]
theorem holds_law {kind v:Int} (h1:1≤kind) (h2:kind≤6) (hv:I64 v):yg1.f kind v=some (decide (ygl kind≤v∧v≤yg8 kind)):=by
 obtain⟨g1,g2⟩:=hv
 unfold yg1.f
 rcases(show kind=1∨kind=2∨kind=3∨kind=4∨kind=5∨kind=6 by omega) with rfl|rfl|rfl|rfl|rfl|rfl
 ·rw[if_neg (by decide),if_neg (by decide),if_pos (by unfold wrap64;decide),show shl .i64 1 (IntKind.u64.wrap (wrap64 (1-1)))=1 from by unfold wrap64;decide]
  unfold yej.f
  rw[if_pos rfl,Option.bind_some]
  congr 1
  rw[show ygl 1 = -128 from rfl,show yg8 1=127 from rfl,wrap_i8]
  rw[Bool.eq_iff_iff,beq_iff_eq,decide_eq_true_eq]
  unfold wrap64
  omega
 ·rw[if_neg (by decide),if_neg (by decide),if_pos (by unfold wrap64;decide),show shl .i64 1 (IntKind.u64.wrap (wrap64 (2-1)))=2 from by unfold wrap64;decide]
  unfold yej.f
  rw[if_neg (by decide),if_pos rfl,Option.bind_some]
  congr 1
  rw[show ygl 2 = -32768 from rfl,show yg8 2=32767 from rfl,wrap_i16]
  rw[Bool.eq_iff_iff,beq_iff_eq,decide_eq_true_eq]
  unfold wrap64
  omega
 ·rw[if_neg (by decide),if_neg (by decide),if_pos (by unfold wrap64;decide),show shl .i64 1 (IntKind.u64.wrap (wrap64 (3-1)))=4 from by unfold wrap64;decide]
  unfold yej.f
  rw[if_neg (by decide),if_neg (by decide),if_pos rfl,Option.bind_some]
  congr 1
  rw[show ygl 3 = -2147483648 from rfl,show yg8 3=2147483647 from rfl]
  rw[Bool.eq_iff_iff,beq_iff_eq,decide_eq_true_eq]
  unfold wrap64 wrap32
  omega
 ·rw[if_neg (by decide),if_neg (by decide),if_pos (by unfold wrap64;decide),show shl .i64 1 (IntKind.u64.wrap (wrap64 (4-1)))=8 from by unfold wrap64;decide]
  unfold yej.f
  rw[if_neg (by decide),if_neg (by decide),if_neg (by decide),if_pos rfl,Option.bind_some]
  congr 1
  rw[show ygl 4 = -9223372036854775808 from rfl,show yg8 4=9223372036854775807 from rfl]
  rw[Bool.eq_iff_iff,beq_iff_eq,decide_eq_true_eq]
  omega
 ·rw[if_pos rfl]
  congr 1
  rw[show ygl 5=0 from rfl,show yg8 5=65535 from rfl,wrap_u16c]
  rw[Bool.eq_iff_iff,beq_iff_eq,decide_eq_true_eq]
  unfold wrap64
  omega
 ·rw[if_neg (by decide),if_pos rfl]
  congr 1
  rw[show ygl 6=0 from rfl,show yg8 6=1 from rfl]
  rw[Bool.eq_iff_iff,beq_iff_eq,decide_eq_true_eq]
  omega
theorem yhk {cs:List Cel} {i:Nat} (h:i<cs.length):yar cs (i:Int)=cs[i]:=by unfold yar;rw[Int.toNat_natCast,List.getD_eq_getElem?_getD,List.getElem?_eq_getElem h,Option.getD_some]
theorem yjr (cs:List Cel) (i:Nat) (h:i<cs.length):yde (cs.take (i+1))=if cs[i].f0=true then yde (cs.take i) else yde (cs.take i)++[cs[i]]:=by
 rw[← ybd cs i h]
 unfold yde
 rw[List.filter_append]
 cases hc:cs[i].f0 <;> simp [hc]
theorem ynz (cs:List Cel) (i:Nat):(yde (cs.take i)).length≤i:=Nat.le_trans (List.length_filter_le _ _) (by rw[List.length_take];omega)
theorem yjw {kind:Int} {c:Cel} (h:yda kind c):(yei kind c).length≤210:=by
 unfold yei yda at *
 split
 ·have:=ybg (ydh c.f1);omega
 ·rename_i hk
  rw[if_neg hk] at h
  have:=ybg c.f2.length
  rw[List.length_append]
  omega
theorem yh4 {kind:Int}:∀ {vs:List Cel},(∀ c∈vs,yda kind c)→((vs.map (yei kind)).flatten).length≤210*vs.length
 | [],_=>by simp
 | c::vs,h=>by
  have h1:=yjw (h c (by simp))
  have h2:=yh4 (vs:=vs) (fun d hd=>h d (by simp [hd]))
  rw[List.map_cons,List.flatten_cons,List.length_append,List.length_cons]
  omega
theorem plain_law {kind:Int} (hk:yd6 kind) (cs:List Cel) (hl:cs.length≤4096) (hc:∀ c∈yde cs,yda kind c):Ev (fun k=>ya4.f k kind cs) (ydv kind cs):=by
 have hn:=yhu hk
 have key:∀ n i:Nat,i+n=cs.length→Ev (fun k=>ya4.l0 k kind (ydv kind (cs.take i)) cs (cs.length:Int) (i:Int)) (ydv kind cs):=by
  intro n
  induction n with
  | zero =>
   intro i h
   refine Ev.step (fun k=>?_) (Ev.now _)
   rw[ya4.l0,if_neg (by omega),List.take_of_length_le (by omega)]
  | succ n ih =>
   intro i h
   have hi:i<cs.length:=by omega
   have hle:=ynz cs i
   have hs:=yjr cs i hi
   have hsub:∀ c∈yde (cs.take i),yda kind c:=fun c hm=>hc c (yer.2 ⟨List.mem_of_mem_take (yer.1 hm).1,(yer.1 hm).2⟩)
   have hlen:=yh4 hsub
   have hrec:=ih (i+1) (by omega)
   by_cases h0:cs[i].f0=true
   ·refine Ev.step (fun k=>?_) hrec
    rw[ya4.l0,if_pos (by omega),if_pos (by omega),if_pos (by omega),yhk hi,if_pos h0,w64s i (by omega)]
    unfold ydv
    rw[hs,if_pos h0]
   ·have hp:=hc cs[i] (yer.2 ⟨List.getElem_mem hi,by simpa using h0⟩)
    have hpl:=yjw hp
    have e:ydv kind (cs.take (i+1))=ydv kind (cs.take i)++yei kind cs[i]:=by unfold ydv;rw[hs,if_neg h0,List.map_append,List.flatten_append];simp
    have hpS:(ydv kind (cs.take i)).length≤210*(yde (cs.take i)).length:=hlen
    rw[e] at hrec
    by_cases hk6:kind≤6
    ·have e2:yei kind cs[i]=vput (ydh cs[i].f1):=by unfold yei;rw[if_pos hk6]
     unfold yda at hp
     rw[if_pos hk6] at hp
     rw[e2] at hrec hpl
     refine Ev.step (g:=fun k=>(ya0.f k ((ydh cs[i].f1:Nat):Int)).bind fun t=>if (ydv kind (cs.take i)).length+t.length<140737488355328 then ya4.l0 k kind (ydv kind (cs.take i)++t) cs (cs.length:Int) ((i+1:Nat):Int) else none) (fun k=>?_) (Ev.bind (yh1 _ (ygc hp.2)) ?_)
     ·rw[ya4.l0,if_pos (by omega),if_pos (by omega),if_pos (by omega),yhk hi,if_neg h0,hn,Option.bind_some,if_pos (by simpa using hk6),ylf hp.2,Option.bind_some,w64s i (by omega)]
     ·exact Ev.same (fun k=>by rw[if_pos (by omega)]) hrec
    ·have e2:yei kind cs[i]=vput cs[i].f2.length++cs[i].f2:=by unfold yei;rw[if_neg hk6]
     unfold yda at hp
     rw[if_neg hk6] at hp
     rw[e2,← List.append_assoc] at hrec
     rw[e2,List.length_append] at hpl
     have hp2:=hp.2
     refine Ev.step (g:=fun k=>(ya0.f k ((cs[i].f2.length:Nat):Int)).bind fun t=>if (ydv kind (cs.take i)).length+t.length<140737488355328 then (some (ydv kind (cs.take i)++t)).bind fun y=>if y.length+cs[i].f2.length<140737488355328 then ya4.l0 k kind (y++cs[i].f2) cs (cs.length:Int) ((i+1:Nat):Int) else none else none) (fun k=>?_) (Ev.bind (yh1 cs[i].f2.length (by omega)) ?_)
     ·rw[ya4.l0,if_pos (by omega),if_pos (by omega),if_pos (by omega),yhk hi,if_neg h0,hn,Option.bind_some,if_neg (by simpa using hk6),wraps_u64 _ (by omega) (by omega),w64s i (by omega)]
     ·exact Ev.same (fun k=>by rw[if_pos (by omega),Option.bind_some,if_pos (by rw[List.length_append];omega)]) hrec
 exact key cs.length 0 (by omega)
theorem nulls_law (cs:List Cel) (hl:cs.length≤4096):Ev (fun k=>yb6.f k cs) (ye6 cs):=by
 have hp:=ygo 1 (cs.map yc8) (by decide) (by rw[List.length_map];exact hl)
 have key:∀ n i:Nat,i+n=cs.length→Ev (fun k=>yb6.l0 k ((List.range cs.length).map fun j=>if j<i then yc8 (cs.getD j yex) else 0) (if ∃ c∈cs.take i,c.f0=true then 1 else 0) cs (cs.length:Int) (i:Int)) (ye6 cs):=by
  intro n
  induction n with
  | zero =>
   intro i h
   have e1:((List.range cs.length).map fun j=>if j<i then yc8 (cs.getD j yex) else 0)=cs.map yc8:=by
    apply List.ext_getElem
    ·simp
    ·intro j h1 h2
     simp only[List.getElem_map,List.getElem_range]
     rw[List.length_map] at h2
     rw[if_pos (by omega),List.getD_eq_getElem?_getD,List.getElem?_eq_getElem h2,Option.getD_some]
   rw[e1,List.take_of_length_le (by omega)]
   by_cases hn:∃ c∈cs,c.f0=true
   ·rw[if_pos hn]
    have:=ppack (w:=1) (by decide) (ykc cs) (by rw[List.length_map];exact hl)
    refine Ev.step (g:=fun k=>(ya9.f k 1 (cs.map yc8)).bind fun bt=>(some ([1]:List Int)).bind fun y=>if y.length+bt.1.length<140737488355328 then some (y++bt.1) else none) (fun k=>?_) (Ev.bind this ?_)
    ·rw[yb6.l0,if_neg (by omega),if_neg (by decide)]
    ·refine Ev.same (fun k=>?_) (Ev.now _)
     rw[Option.bind_some,if_pos (by simp;omega)]
     unfold ye6
     rw[if_pos hn]
     rfl
   ·rw[if_neg hn]
    refine Ev.step (fun k=>?_) (Ev.now _)
    rw[yb6.l0,if_neg (by omega),if_pos rfl]
    unfold ye6
    rw[if_neg hn]
  | succ n ih =>
   intro i h
   have hi:i<cs.length:=by omega
   have hrec:=ih (i+1) (by omega)
   have ht:=ybd cs i hi
   rw[← ht] at hrec
   have hset:((List.range cs.length).map fun j=>if j<i then yc8 (cs.getD j yex) else 0).set i (yc8 cs[i])=((List.range cs.length).map fun j=>if j<i+1 then yc8 (cs.getD j yex) else 0):=by
    have:=ymu cs.length i (fun j=>yc8 (cs.getD j yex))
    simp only[List.getD_eq_getElem?_getD,List.getElem?_eq_getElem hi,Option.getD_some] at this ⊢
    exact this
   rw[← hset] at hrec
   refine Ev.step (fun k=>?_) hrec
   rw[yb6.l0,if_pos (by omega),if_pos (by omega),if_pos (by omega),yhk hi,w64s i (by omega)]
   by_cases h0:cs[i].f0=true
   ·have e1:yc8 cs[i]=1:=by unfold yc8;rw[if_pos h0]
    rw[if_pos h0,if_pos (by simp;omega),e1,Int.toNat_natCast,if_pos (show ∃ c∈cs.take i++[cs[i]],c.f0=true from⟨cs[i],List.mem_append_right _ (List.mem_singleton_self _),h0⟩)]
   ·have e1:yc8 cs[i]=0:=by unfold yc8;rw[if_neg h0]
    rw[if_neg h0,e1]
    have e2:((List.range cs.length).map fun j=>if j<i then yc8 (cs.getD j yex) else 0).set i 0=((List.range cs.length).map fun j=>if j<i then yc8 (cs.getD j yex) else 0):=by
     apply List.ext_getElem
     ·simp
     ·intro j h1 h2
      rw[List.getElem_set]
      split
      ·rename_i e;subst e;simp
      ·rfl
    rw[e2]
    have e3:(∃ c∈cs.take i++[cs[i]],c.f0=true)↔∃ c∈cs.take i,c.f0=true:=by
     constructor
     ·rintro⟨c,hc,hc0⟩
      rcases List.mem_append.1 hc with hc|hc
      ·exact⟨c,hc,hc0⟩
      ·rw[List.mem_singleton.1 hc] at hc0;exact absurd hc0 h0
     ·rintro⟨c,hc,hc0⟩;exact⟨c,List.mem_append_left _ hc,hc0⟩
    simp only[e3]
 have h0:=key cs.length 0 (by omega)
 refine Ev.same (fun k=>?_) h0
 unfold yb6.f
 rw[if_pos (by omega),if_pos (by rw[Int.toNat_natCast];omega),Int.toNat_natCast]
 congr 1
 ·apply List.ext_getElem
  ·simp
  ·intro j h1 h2;simp
theorem yit (vs:List Int) (e:Int) (hl:vs.length≤4096):Ev (fun k=>ybh.f k vs e) (vs.map yds,e):=by
 have key:∀ n i:Nat,i+n=vs.length→Ev (fun k=>ybh.l0 k e ((vs.take i).map yds) vs (vs.length:Int) (i:Int)) (vs.map yds,e):=by
  intro n
  induction n with
  | zero =>
   intro i h
   refine Ev.step (fun k=>?_) (Ev.now _)
   rw[ybh.l0,if_neg (by omega),List.take_of_length_le (by omega)]
  | succ n ih =>
   intro i h
   have hi:i<vs.length:=by omega
   refine Ev.step (fun k=>?_) (ih (i+1) (by omega))
   rw[ybh.l0,if_pos (by omega),if_pos (by omega),if_pos (by omega),if_pos (by rw[List.length_map,List.length_take];omega),ybj hi,w64s i (by omega),← ybd vs i hi,List.map_append]
   rfl
 exact key vs.length 0 (by omega)
theorem ymx (S:BitVec 32):(stp S).toNat=if S.toNat%2=1 then (S.toNat / 2) ^^^ 2197175160 else S.toNat / 2:=by
 have h0:S.getLsbD 0=decide (S.toNat%2=1):=by
  show S.toNat.testBit 0=_
  exact Nat.testBit_zero _
 unfold stp
 rw[h0]
 by_cases h:S.toNat%2=1
 ·rw[if_pos h,decide_eq_true h]
  simp only[if_true]
  rw[BitVec.toNat_xor,BitVec.toNat_ushiftRight,Nat.shiftRight_eq_div_pow]
  rfl
 ·rw[if_neg h,decide_eq_false h]
  simp only[Bool.false_eq_true,if_false]
  rw[BitVec.xor_zero,BitVec.toNat_ushiftRight,Nat.shiftRight_eq_div_pow]
theorem ykl (S:BitVec 32):S.toNat<4294967296:=S.isLt
theorem ylu (S:BitVec 32) {c:Int} (hc:0≤c∧c<256):Go.bits .xor .u32 (S.toNat:Int) (c%4294967296)=((S ^^^ BitVec.ofNat 32 c.toNat).toNat:Int):=by
 rw[show c%4294967296=((c.toNat:Nat):Int) from by omega,u32_xor_nat _ _ (ykl S) (by omega),BitVec.toNat_xor,BitVec.toNat_ofNat,Nat.mod_eq_of_lt (by omega)]
theorem rsum_l1 (b:List Int) (i:Nat) (res):∀ (n:Nat) (j:Nat) (S:BitVec 32),j+n=8→Ev (fun k=>ya6.l0 k b ((stpN n S).toNat:Int) (wrap64 ((i:Int)+1))) res→Ev (fun k=>ya6.l1 k b (S.toNat:Int) (i:Int) (j:Int)) res:=by
 intro n
 induction n with
 | zero =>
  intro j S hj h
  refine Ev.step (fun k=>?_) h
  rw[ya6.l1,if_neg (by omega)]
  rfl
 | succ n ih =>
  intro j S hj h
  refine Ev.step (fun k=>?_) (ih (j+1) (stp S) (by omega) h)
  have hS:=ykl S
  rw[ya6.l1,if_pos (by omega),w64s j (by omega),ymx]
  have e1:(Int.tdiv (S.toNat:Int) 2)%4294967296=((S.toNat / 2:Nat):Int):=by
   rw[Int.tdiv_eq_ediv_of_nonneg (by omega)];omega
  have e2:Int.tmod (S.toNat:Int) 2=((S.toNat%2:Nat):Int):=by
   rw[Int.tmod_eq_emod_of_nonneg (by omega)];omega
  rw[e1,e2]
  by_cases h1:S.toNat%2=1
  ·rw[if_pos (by omega),if_pos h1]
   have:=u32_xor_nat (S.toNat / 2) 2197175160 (by omega) (by decide)
   rw[show((2197175160:Nat):Int)=2197175160 from rfl] at this
   rw[this]
  ·rw[if_neg (by omega),if_neg h1]
theorem rsum_ev {b:List Int} (hb:Bys b) (hl:b.length≤140737488355328):Ev (fun k=>ya6.f k b) ((sumS b:Nat):Int):=by
 have key:∀ n i:Nat,i+n=b.length→Ev (fun k=>ya6.l0 k b ((crcL ones (b.take i)).toNat:Int) (i:Int)) ((sumS b:Nat):Int):=by
  intro n
  induction n with
  | zero =>
   intro i h
   refine Ev.step (fun k=>?_) (Ev.now _)
   rw[ya6.l0,if_neg (by omega),List.take_of_length_le (by omega)]
   congr 1
   have:=u32_xor_nat (crcL ones b).toNat 4294967295 (ykl _) (by decide)
   rw[show((4294967295:Nat):Int)=4294967295 from rfl] at this
   rw[this]
   unfold sumS
   rw[BitVec.toNat_xor]
   rfl
  | succ n ih =>
   intro i h
   have hi:i<b.length:=by omega
   have hx:=hb b[i] (List.getElem_mem hi)
   have hrec:=ih (i+1) (by omega)
   rw[← ybd b i hi] at hrec
   have e:crcL ones (b.take i++[b[i]])=stpN 8 (crcL ones (b.take i) ^^^ BitVec.ofNat 32 (b[i]).toNat):=by unfold crcL;rw[List.foldl_append];rfl
   rw[e] at hrec
   refine Ev.step (fun k=>?_) (rsum_l1 b i _ 8 0 (crcL ones (b.take i) ^^^ BitVec.ofNat 32 (b[i]).toNat) (by omega) (by rw[w64s i (by omega)];exact hrec))
   rw[ya6.l0,if_pos (by omega),if_pos (by omega),ybj hi,ylu _ hx]
   rfl
 have:=key b.length 0 (by omega)
 exact this
theorem low_ev (v:Nat) (hv:v<4294967296):Ev (fun k=>ybx.f k (v:Int) 4) (yd8 4 v):=by
 have hd:∀ x:Nat,IntKind.u64.wrap (Int.tdiv (x:Int) 256)=((x / 256:Nat):Int)∨¬ x<4294967296:=by
  intro x
  by_cases hx:x<4294967296
  ·left
   rw[Int.tdiv_eq_ediv_of_nonneg (by omega),IntKind.wrap_u64];omega
  ·exact .inr hx
 have hm:∀ x:Nat,(Int.tmod (x:Int) 256)%256=((x%256:Nat):Int):=by intro x;rw[Int.tmod_eq_emod_of_nonneg (by omega)];omega
 have d1:=(hd v).resolve_right (by omega)
 have d2:=(hd (v / 256)).resolve_right (by omega)
 have d3:=(hd (v / 256 / 256)).resolve_right (by omega)
 have d4:=(hd (v / 256 / 256 / 256)).resolve_right (by omega)
 refine⟨5,fun k hk=>?_⟩
 obtain⟨m,rfl⟩:∃ m,k=m+5:=⟨k-5,by omega⟩
 show ybx.f (m+5) (v:Int) 4=_
 unfold ybx.f
 rw[show m+5=(m+4)+1 from rfl,ybx.l0,if_pos (by decide),if_pos (by decide),d1,hm,show wrap64 (0+1)=1 from by unfold wrap64;decide]
 rw[show m+4=(m+3)+1 from rfl,ybx.l0,if_pos (by decide),if_pos (by simp),d2,hm,show wrap64 (1+1)=2 from by unfold wrap64;decide]
 rw[show m+3=(m+2)+1 from rfl,ybx.l0,if_pos (by decide),if_pos (by simp),d3,hm,show wrap64 (2+1)=3 from by unfold wrap64;decide]
 rw[show m+2=(m+1)+1 from rfl,ybx.l0,if_pos (by decide),if_pos (by simp),d4,hm,show wrap64 (3+1)=4 from by unfold wrap64;decide]
 rw[ybx.l0,if_neg (by decide)]
 simp [yd8]
theorem rseal_ev {b:List Int} (hb:Bys b) (hl:b.length+4≤140737488355328):Ev (fun k=>yff.f k b) (ye8 b):=by
 have hs:=ykz b
 unfold yff.f
 refine Ev.bind (rsum_ev hb (by omega)) ?_
 rw[wraps_u64 _ (by omega) (by omega)]
 refine Ev.bind (low_ev _ hs) (Ev.bind (cat_ev _ _ (by rw[yg9];omega)) (Ev.now _))
theorem value4_ev {b:List Int} (hb:Bys b) (p:Nat) (hp:p+4=b.length) (hl:b.length≤140737488355328):Ev (fun k=>ya1.f k b (p:Int) 4) (((le (b.drop p):Nat):Int),true):=by
 have h0:p<b.length:=by omega
 have h1:p+1<b.length:=by omega
 have h2:p+2<b.length:=by omega
 have h3:p+3<b.length:=by omega
 have x0:=hb b[p] (List.getElem_mem h0)
 have x1:=hb b[p+1] (List.getElem_mem h1)
 have x2:=hb b[p+2] (List.getElem_mem h2)
 have x3:=hb b[p+3] (List.getElem_mem h3)
 have hd:b.drop p=[b[p],b[p+1],b[p+2],b[p+3]]:=by
  rw[List.drop_eq_getElem_cons h0,List.drop_eq_getElem_cons h1,List.drop_eq_getElem_cons h2,List.drop_eq_getElem_cons h3,List.drop_eq_nil_of_le (by omega)]
 have hle:le (b.drop p)=b[p].toNat+256*(b[p+1].toNat+256*(b[p+2].toNat+256*(b[p+3].toNat+256*0))):=by rw[hd];rfl
 have r3:rd b (wrap64 ((p:Int)+3))=b[p+3]:=by rw[w64 (by omega) (by omega),show((p:Int)+3)=((p+3:Nat):Int) by omega,ybj h3]
 have r2:rd b (wrap64 ((p:Int)+2))=b[p+2]:=by rw[w64 (by omega) (by omega),show((p:Int)+2)=((p+2:Nat):Int) by omega,ybj h2]
 have r1:rd b (wrap64 ((p:Int)+1))=b[p+1]:=by rw[w64 (by omega) (by omega),show((p:Int)+1)=((p+1:Nat):Int) by omega,ybj h1]
 have r0:rd b (wrap64 ((p:Int)+0))=b[p]:=by rw[w64 (by omega) (by omega),show((p:Int)+0)=((p:Nat):Int) by omega,ybj h0]
 have c:∀ j:Int,0≤j→j≤3→0≤wrap64 ((p:Int)+j)∧wrap64 ((p:Int)+j)<(b.length:Int):=fun j hj0 hj3=>by rw[w64 (by omega) (by omega)];omega
 refine⟨7,fun k hk=>?_⟩
 obtain⟨m,rfl⟩:∃ m,k=m+7:=⟨k-7,by omega⟩
 show ya1.f (m+7) b (p:Int) 4=_
 unfold ya1.f
 rw[if_neg (by omega),if_neg (by omega),decide_eq_false (by rw[w64 (by omega) (by omega)];omega)]
 rw[show m+7=(m+6)+1 from rfl,ya1.j0,if_neg (by decide),show wrap64 (4-1)=3 from by unfold wrap64;decide]
 rw[show m+6=(m+5)+1 from rfl,ya1.l0,if_pos (by decide),if_pos (c 3 (by decide) (by decide)).1,if_pos (c 3 (by decide) (by decide)).2,r3,show wrap64 (3-1)=2 from by unfold wrap64;decide]
 rw[show m+5=(m+4)+1 from rfl,ya1.l0,if_pos (by decide),if_pos (c 2 (by decide) (by decide)).1,if_pos (c 2 (by decide) (by decide)).2,r2,show wrap64 (2-1)=1 from by unfold wrap64;decide]
 rw[show m+4=(m+3)+1 from rfl,ya1.l0,if_pos (by decide),if_pos (c 1 (by decide) (by decide)).1,if_pos (c 1 (by decide) (by decide)).2,r1,show wrap64 (1-1)=0 from by unfold wrap64;decide]
 rw[show m+3=(m+2)+1 from rfl,ya1.l0,if_pos (by decide),if_pos (c 0 (by decide) (by decide)).1,if_pos (c 0 (by decide) (by decide)).2,r0,show wrap64 (0-1) = -1 from by unfold wrap64;decide]
 rw[ya1.l0,if_neg (by decide)]
 congr 1
 rw[Prod.mk.injEq]
 refine⟨?_,rfl⟩
 rw[hle]
 generalize b[p]=y0 at x0 ⊢
 generalize b[p+1]=y1 at x1 ⊢
 generalize b[p+2]=y2 at x2 ⊢
 generalize b[p+3]=y3 at x3 ⊢
 clear c r0 r1 r2 r3 hle hd
 have e1:IntKind.u64.wrap (IntKind.u64.wrap (0*256)+IntKind.u64.wrap y3)=y3:=by rw[show(0:Int)*256=0 from rfl,wraps_u64 0 (by decide) (by decide),wraps_u64 y3 (by omega) (by omega),wraps_u64 _ (by omega) (by omega)];omega
 rw[e1]
 have e2:IntKind.u64.wrap (IntKind.u64.wrap (y3*256)+IntKind.u64.wrap y2)=y3*256+y2:=by rw[wraps_u64 (y3*256) (by omega) (by omega),wraps_u64 y2 (by omega) (by omega),wraps_u64 _ (by omega) (by omega)]
 rw[e2]
 have e3:IntKind.u64.wrap (IntKind.u64.wrap ((y3*256+y2)*256)+IntKind.u64.wrap y1)=(y3*256+y2)*256+y1:=by rw[wraps_u64 ((y3*256+y2)*256) (by omega) (by omega),wraps_u64 y1 (by omega) (by omega),wraps_u64 _ (by omega) (by omega)]
 rw[e3]
 have e4:IntKind.u64.wrap (IntKind.u64.wrap (((y3*256+y2)*256+y1)*256)+IntKind.u64.wrap y0)=((y3*256+y2)*256+y1)*256+y0:=by rw[wraps_u64 (((y3*256+y2)*256+y1)*256) (by omega) (by omega),wraps_u64 y0 (by omega) (by omega),wraps_u64 _ (by omega) (by omega)]
 rw[e4]
 omega
theorem tail_sum {b:List Int} (hb:Bys b) (h:4≤b.length) (s:Nat) (hs:s<4294967296):b.drop (b.length-4)=yd8 4 s↔le (b.drop (b.length-4))=s:=by
 have hl:(b.drop (b.length-4)).length=4:=by rw[List.length_drop];omega
 constructor
 ·intro e
  rw[e,ynf]
  exact Nat.mod_eq_of_lt (by simpa using hs)
 ·intro e
  rw[← yj3 (hb.drop (b.length-4)),hl,e]
theorem ymc {b:List Int} (hb:Bys b) (hl:b.length≤140737488355328):Ev (fun k=>yeo.f k b) (yc9 b):=by
 have hw:wrap64 ((b.length:Int)-4)=(b.length:Int)-4:=w64 (by omega) (by omega)
 by_cases h:4≤b.length
 ·have e:(b.length:Int)-4=((b.length-4:Nat):Int):=by omega
  refine Ev.same (g:=fun k=>(ya1.f k b ((b.length-4:Nat):Int) 4).bind fun bt=>if bt.2=true then (yag.f k b 0 ((b.length-4:Nat):Int)).bind fun t=>(ya6.f k t).bind fun u=>some (bt.1 == IntKind.u64.wrap u) else some false) (fun k=>by unfold yeo.f;rw[hw,if_neg (by omega),e]) (Ev.bind (value4_ev hb (b.length-4) (by omega) hl) ?_)
  simp only[if_true]
  have hp:=yf1 b 0 (b.length-4) hl (by omega) (by omega)
  rw[List.drop_zero,Nat.sub_zero] at hp
  refine Ev.bind hp ?_
  refine Ev.bind (rsum_ev (hb.take _) (by rw[List.length_take];omega)) ?_
  have hs:=ykz (b.take (b.length-4))
  rw[wraps_u64 _ (by omega) (by omega)]
  refine Ev.same (fun k=>?_) (Ev.now _)
  congr 1
  unfold yc9
  rw[Bool.eq_iff_iff,beq_iff_eq,decide_eq_true_eq,tail_sum hb h _ hs]
  constructor
  ·intro e;exact⟨h,by exact_mod_cast e⟩
  ·rintro⟨_,e⟩;exact_mod_cast e
 ·refine Ev.same (fun k=>?_) (Ev.now _)
  unfold yeo.f
  rw[hw,if_pos (by omega)]
  congr 1
  unfold yc9
  symm
  exact decide_eq_false fun e=>h e.1
theorem yi1 {u:Nat} (h:u<18446744073709551616):yc1.f (u:Int)=some (ycy u):=by
 unfold yc1.f ycy
 rw[Int.tmod_eq_emod_of_nonneg (by omega),Int.tdiv_eq_ediv_of_nonneg (by omega)]
 have e:((u:Int) / 2)=((u / 2:Nat):Int):=by omega
 rw[e,wraps_u64 _ (by omega) (by omega),w64 (n:=((u / 2:Nat):Int)) (by omega) (by omega)]
 by_cases h0:u%2=0
 ·rw[if_pos (by omega),if_pos h0]
 ·rw[if_neg (by omega),if_neg h0]
  congr 1
  rw[w64 (n:=-((u / 2:Nat):Int)) (by omega) (by omega),w64 (by omega) (by omega)]
theorem zero_ev (b:List Int) (hl:b.length≤140737488355328):Ev (fun k=>ybf.f k b) (decide ((0:Int)∈b)):=by
 have key:∀ n i:Nat,i+n=b.length→Ev (fun k=>ybf.l0 k b (i:Int)) (decide ((0:Int)∈b.drop i)):=by
  intro n
  induction n with
  | zero =>
   intro i h
   refine Ev.step (fun k=>?_) (Ev.now _)
   rw[ybf.l0,if_neg (by omega),List.drop_eq_nil_of_le (by omega)]
   simp
  | succ n ih =>
   intro i h
   have hi:i<b.length:=by omega
   rw[List.drop_eq_getElem_cons hi]
   by_cases h0:b[i]=0
   ·refine Ev.step (fun k=>?_) (Ev.now _)
    rw[ybf.l0,if_pos (by omega),if_pos (by omega),ybj hi,if_pos h0]
    congr 1
    symm
    exact decide_eq_true (by rw[h0];simp)
   ·refine Ev.step (fun k=>?_) (Ev.same (g:=fun k=>ybf.l0 k b ((i+1:Nat):Int)) (fun k=>rfl) (show Ev _ (decide ((0:Int)∈b[i]::b.drop (i+1))) from ?_))
    ·rw[ybf.l0,if_pos (by omega),if_pos (by omega),ybj hi,if_neg h0,w64s i (by omega)]
    ·have e:decide ((0:Int)∈b[i]::b.drop (i+1))=decide ((0:Int)∈b.drop (i+1)):=by
      refine decide_eq_decide.2 ⟨fun hm=>(List.mem_cons.1 hm).resolve_left (fun e=>h0 e.symm),fun hm=>List.mem_cons_of_mem _ hm⟩
     rw[e]
     exact ih (i+1) (by omega)
 have:=key b.length 0 (by omega)
 exact this
theorem rcheck_ev {kind:Int} {c:Cel} (hl:c.f2.length≤140737488355328):Ev (fun k=>yba.f k kind true c.f0 c.f1 c.f2) (ydu kind c):=by
 have key:∀ bad:Bool,(bad=true↔kind<1∨8<kind)→Ev (fun k=>yba.j0 k kind true bad c.f0 c.f1 c.f2) (ydu kind c):=by
  intro bad hbad
  unfold ydu
  by_cases hb:bad=true
  ·rw[if_pos (hbad.1 hb)]
   refine Ev.step (fun k=>?_) (Ev.now _)
   rw[yba.j0,if_pos hb]
  have hg:¬ (kind<1∨8<kind):=fun h=>hb (hbad.2 h)
  rw[if_neg hg]
  by_cases h0:c.f0=true
  ·rw[if_pos h0]
   refine Ev.step (fun k=>?_) (Ev.now _)
   rw[yba.j0,if_neg hb,if_pos h0,if_pos rfl]
   by_cases h1:c.f1=0
   ·rw[if_pos h1]
    by_cases h2:(c.f2.length:Int) > 0
    ·rw[if_pos h2,if_pos (.inr (by omega))]
    ·rw[if_neg h2,if_neg (by rintro(h|h);exact h h1;omega)]
   ·rw[if_neg h1,if_pos (.inl h1)]
  rw[if_neg h0]
  by_cases hk:kind≤6
  ·rw[if_pos hk]
   refine Ev.step (fun k=>?_) (Ev.now _)
   rw[yba.j0,if_neg hb,if_neg h0,if_pos hk]
   by_cases h2:(c.f2.length:Int) > 0
   ·rw[if_pos h2,if_pos (by omega)]
   ·rw[if_neg h2,if_neg (by omega)]
    have hL:yca.f kind=some (ygl kind):=by unfold yca.f ygl;(repeat' split) <;> rfl
    have hG:ycb.f kind=some (yg8 kind):=by unfold ycb.f yg8;(repeat' split) <;> rfl
    rw[hL,Option.bind_some,hG]
    by_cases h3:c.f1<ygl kind
    ·rw[if_pos h3,if_pos (.inl h3)]
    ·rw[if_neg h3,Option.bind_some]
     by_cases h4:c.f1 > yg8 kind
     ·rw[if_pos h4,if_pos (.inr h4)]
     ·rw[if_neg h4,if_neg (by omega)]
  ·rw[if_neg hk]
   by_cases h1:c.f1=0
   ·rw[if_neg (by simpa using h1)]
    by_cases h2:(c.f2.length:Int) > 200
    ·rw[if_pos (by omega)]
     refine Ev.step (fun k=>?_) (Ev.now _)
     rw[yba.j0,if_neg hb,if_neg h0,if_neg hk,if_pos h1,if_pos h2]
    ·rw[if_neg (by omega)]
     by_cases h7:kind=7
     ·refine Ev.step (g:=fun k=>(ybf.f k c.f2).bind fun t=>if t=true then some 5 else some 0) (fun k=>?_) (Ev.bind (zero_ev c.f2 hl) ?_)
      ·rw[yba.j0,if_neg hb,if_neg h0,if_neg hk,if_pos h1,if_neg h2,if_pos h7]
      ·refine Ev.same (fun k=>?_) (Ev.now _)
       by_cases hz:(0:Int)∈c.f2
       ·rw[if_pos (by simpa using hz),if_pos ⟨h7,hz⟩]
       ·rw[if_neg (by simpa using hz),if_neg (fun h=>hz h.2)]
     ·rw[if_neg (fun h=>h7 h.1)]
      refine Ev.step (fun k=>?_) (Ev.now _)
      rw[yba.j0,if_neg hb,if_neg h0,if_neg hk,if_pos h1,if_neg h2,if_neg h7]
   ·rw[if_pos h1]
    refine Ev.step (fun k=>?_) (Ev.now _)
    rw[yba.j0,if_neg hb,if_neg h0,if_neg hk,if_neg h1]
 by_cases h1:kind<1
 ·refine Ev.same (fun k=>?_) (key true (by simp [h1]))
  unfold yba.f
  rw[if_pos h1]
 ·refine Ev.same (fun k=>?_) (key (decide (kind > 8)) (by simp;omega))
  unfold yba.f
  rw[if_neg h1]
theorem yqr {kind:Int} {cs:List Cel} (hs:cs.length≤140737488355328) (hl:∀ c∈cs,c.f2.length≤140737488355328):Ev (fun k=>yb0.f k kind cs) (yc0 kind cs):=by
 have key:∀ n i:Nat,i+n=cs.length→Ev (fun k=>yb0.l0 k kind cs (i:Int)) (yfj kind (cs.drop i)):=by
  intro n
  induction n with
  | zero =>
   intro i h
   refine Ev.step (fun k=>?_) (Ev.now _)
   rw[yb0.l0,if_neg (by omega),List.drop_eq_nil_of_le (by omega)]
   rfl
  | succ n ih =>
   intro i h
   have hi:i<cs.length:=by omega
   rw[List.drop_eq_getElem_cons hi]
   refine Ev.step (g:=fun k=>(yba.f k kind true cs[i].f0 cs[i].f1 cs[i].f2).bind fun t=>if t=0 then yb0.l0 k kind cs ((i+1:Nat):Int) else some t) (fun k=>?_) (Ev.bind (rcheck_ev (hl _ (List.getElem_mem hi))) ?_)
   ·rw[yb0.l0,if_pos (by omega),if_pos (by omega),yhk hi,w64s i (by omega)]
   ·simp only[yfj]
    by_cases h0:ydu kind cs[i]=0
    ·rw[if_neg (by simpa using h0)]
     exact Ev.same (fun k=>by rw[if_pos h0]) (ih (i+1) (by omega))
    ·rw[if_pos h0]
     exact Ev.same (fun k=>by rw[if_neg h0]) (Ev.now _)
 unfold yc0
 by_cases h:4096<cs.length
 ·rw[if_pos h]
  refine Ev.same (fun k=>?_) (Ev.now _)
  unfold yb0.f
  rw[if_pos (by omega)]
 ·rw[if_neg h]
  have:=key cs.length 0 (by omega)
  refine Ev.same (fun k=>?_) this
  unfold yb0.f
  rw[if_neg (by omega)]
  rfl
theorem rfits_law {kind:Int} (h:yd6 kind) (codec:Int):ye2.f kind codec=some (decide (ycz kind codec)):=by
 unfold ye2.f ycz
 obtain⟨h1,h2⟩:=h
 by_cases e1:codec=1
 ·rw[if_pos e1];congr 1;symm;exact decide_eq_true (.inl e1)
 rw[if_neg e1]
 by_cases k6:kind≤6
 ·rw[if_pos k6]
  by_cases e2:codec=2
  ·rw[if_pos e2];congr 1;symm;exact decide_eq_true (by omega)
  rw[if_neg e2]
  by_cases e3:codec=3
  ·rw[if_pos e3];congr 1;symm;exact decide_eq_true (by omega)
  rw[if_neg e3,if_neg (by omega)];congr 1;symm;exact decide_eq_false (by omega)
 ·rw[if_neg k6,if_pos (by omega)]
  by_cases e4:codec=4
  ·rw[if_pos e4];congr 1;symm;exact decide_eq_true (by omega)
  rw[if_neg e4];congr 1
  by_cases e5:codec=5
  ·rw[beq_iff_eq.2 e5];symm;exact decide_eq_true (by omega)
  ·rw[beq_eq_false_iff_ne.2 e5];symm;exact decide_eq_false (by omega)
end Go.Proofs.YteeikgjjgfdjgaaGreat.PK
end
