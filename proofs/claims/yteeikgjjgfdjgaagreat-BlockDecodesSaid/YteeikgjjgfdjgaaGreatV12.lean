/-
  Parts of the proof: AKp, AKu, AKq, AKf, AKg.
-/
import Derived.Test.YteeikgjjgfdjgaaGreatV11
import Derived.Lib.BytesEntry
import Derived.Laws.Externs
set_option maxHeartbeats 2000000
set_option maxRecDepth 1000000
section
namespace Go.Proofs.YteeikgjjgfdjgaaGreat.PK
open Go.RowKit YteeikgjjgfdjgaaGreatW.PrintWords YteeikgjjgfdjgaaGreatW.PrintLast YteeikgjjgfdjgaaGreatW.PrintMore
set_option linter.unusedVariables false
set_option linter.unusedSimpArgs false
def Ev {α:Type} (g:Nat→Option α) (r:α):Prop:=∃ K,∀ k,K≤k→g k=some r
theorem Ev.step {α:Type} {g h:Nat→Option α} {r:α} (hs:∀ k,h (k+1)=g k) (hg:Ev g r):Ev h r:=by
 obtain⟨K,hK⟩:=hg
 refine⟨K+1,fun k hk=>?_⟩
 obtain⟨k',rfl⟩:∃ k',k=k'+1:=⟨k-1,by omega⟩
 rw[hs]
 exact hK k' (by omega)
theorem Ev.same {α:Type} {g h:Nat→Option α} {r:α} (hs:∀ k,h k=g k) (hg:Ev g r):Ev h r:=by
 obtain⟨K,hK⟩:=hg
 exact⟨K,fun k hk=>(hs k).trans (hK k hk)⟩
theorem Ev.bind {α β:Type} {g:Nat→Option α} {f:Nat→α→Option β} {a:α} {r:β} (hg:Ev g a) (hf:Ev (fun k=>f k a) r):Ev (fun k=>(g k).bind (f k)) r:=by
 obtain⟨K,hK⟩:=hg
 obtain⟨K',hK'⟩:=hf
 refine⟨max K K',fun k hk=>?_⟩
 show(g k).bind (f k)=some r
 rw[hK k (by omega),Option.bind_some]
 exact hK' k (by omega)
theorem Ev.now {α:Type} (r:α):Ev (fun _=>some r) r:=⟨0,fun _ _=>rfl⟩
theorem Ev.up {α:Type} {g:Nat→Option α} (m:∀ k,LeO (g k) (g (k+1))) {k:Nat} {r:α} (h:g k=some r):Ev g r:=⟨k,PK.up m h⟩
theorem Ev.ex {α:Type} {g:Nat→Option α} {r:α} (h:Ev g r):∃ k,g k=some r:=by
 obtain⟨K,hK⟩:=h
 exact⟨K,hK K (Nat.le_refl _)⟩
theorem yh1 (n:Nat) (h:n<18446744073709551616):Ev (fun k=>ya0.f k (n:Int)) (vput n):=Ev.up (fun k=>ya0.mono _ k) (yg2 n h)
theorem get_ev (l:List Int) (p:Nat) (hb:Bys l) (hl:l.length<1152921504606846976) (hp:p≤l.length):Ev (fun k=>yaw.f k l (p:Int)) (((vget l p).1:Int),((vget l p).2.1:Int),(vget l p).2.2):=Ev.up (fun k=>yaw.mono _ _ k) (get_law l p hb hl hp)
def le:List Int→Nat
 | []=>0
 | b::bs=>b.toNat+256*le bs
theorem le_append (a b:List Int):le (a++b)=le a+256^a.length*le b:=by
 induction a with
 | nil=>simp [le]
 | cons x a ih =>
  simp only[List.cons_append,le,ih,List.length_cons,Nat.pow_succ]
  rw[Nat.mul_add,← Nat.mul_assoc,Nat.mul_comm 256 (256^a.length)]
  omega
theorem le_lt {a:List Int} (h:Bys a):le a<256^a.length:=by
 induction a with
 | nil=>simp [le]
 | cons x a ih =>
  obtain⟨hx,ha⟩:=h.cons
  have:=ih ha
  simp only[le,List.length_cons,Nat.pow_succ]
  omega
theorem le_div {a:List Int} (h:Bys a) (i:Nat):le a / 256^i=le (a.drop i):=by
 rcases Nat.lt_or_ge a.length i with hi|hi
 ·rw[List.drop_of_length_le (by omega)]
  refine Nat.div_eq_of_lt (Nat.lt_of_lt_of_le (le_lt h) (Nat.pow_le_pow_right (by decide) (by omega)))
 ·have e:le a=le (a.take i)+256^i*le (a.drop i):=by
   conv=>lhs;rw[← List.take_append_drop i a,le_append]
   rw[List.length_take,Nat.min_eq_left hi]
  have h1:=le_lt (h.take i)
  rw[List.length_take,Nat.min_eq_left hi] at h1
  rw[e,Nat.add_mul_div_left _ _ (Nat.pow_pos (by decide)),Nat.div_eq_of_lt h1,Nat.zero_add]
theorem le_get {a:List Int} (h:Bys a) {i:Nat} (hi:i<a.length):le a / 256^i%256=a[i].toNat:=by
 rw[le_div h,List.drop_eq_getElem_cons hi]
 have:=h a[i] (List.getElem_mem hi)
 simp only[le]
 omega
theorem le_set (a:List Int) (i:Nat) (x:Int) (hi:i<a.length):le (a.set i x)+a[i].toNat*256^i=le a+x.toNat*256^i:=by
 induction a generalizing i with
 | nil=>simp at hi
 | cons y a ih =>
  cases i with
  | zero=>simp [le];omega
  | succ i =>
   have:=ih i (by simpa using hi)
   simp only[List.set_cons_succ,le,List.getElem_cons_succ,Nat.pow_succ]
   rw[← Nat.mul_assoc,← Nat.mul_assoc]
   omega
theorem yq2 {a:List Int} {i:Nat} (hi:i<a.length) (d:Nat):le (a.set i ((a[i].toNat+d:Nat):Int))=le a+d*256^i:=by
 have h1:=le_set a i ((a[i].toNat+d:Nat):Int) hi
 rw[Int.toNat_natCast,Nat.add_mul] at h1
 omega
theorem Bys.set {a:List Int} (h:Bys a) {i:Nat} {x:Int} (hx:0≤x∧x<256):Bys (a.set i x):=fun y hy=>by
 rcases List.mem_or_eq_of_mem_set hy with hy|rfl
 ·exact h y hy
 ·exact hx
theorem Bys.zeros (n:Nat):Bys (List.replicate n 0):=fun x hx=>by
 rw[List.eq_of_mem_replicate hx];omega
theorem le_zeros (n:Nat):le (List.replicate n 0)=0:=by
 induction n with
 | zero=>rfl
 | succ n ih=>simp [List.replicate_succ,le,ih]
def yd8:Nat→Nat→List Int
 | 0,_=>[]
 | n+1,N=>((N%256:Nat):Int)::yd8 n (N / 256)
theorem yj3 {x:List Int} (h:Bys x):yd8 x.length (le x)=x:=by
 induction x with
 | nil=>rfl
 | cons b x ih =>
  obtain⟨hb,hx⟩:=h.cons
  simp only[List.length_cons,yd8,le]
  rw[show(b.toNat+256*le x) / 256=le x from by omega,ih hx]
  congr 1
  omega
theorem yg9 (n N:Nat):(yd8 n N).length=n:=by
 induction n generalizing N with
 | zero=>rfl
 | succ n ih=>simp [yd8,ih]
theorem yqb (n N:Nat):Bys (yd8 n N):=by
 induction n generalizing N with
 | zero=>intro x hx;simp [yd8] at hx
 | succ n ih =>
  intro x hx
  rcases List.mem_cons.1 hx with rfl|hx
  ·omega
  ·exact ih _ x hx
theorem ynf (n N:Nat):le (yd8 n N)=N%256^n:=by
 induction n generalizing N with
 | zero=>simp [yd8,le,Nat.mod_one]
 | succ n ih =>
  simp only[yd8,le,ih,Int.toNat_natCast]
  rw[Nat.pow_succ,Nat.mul_comm (256^n) 256,Nat.mod_mul]
theorem yhy (q:Nat):256^q=2^(8*q):=by rw[show(256:Nat)=2^8 from rfl,← Nat.pow_mul]
def yfw (w:Nat):List Int→Nat
 | []=>0
 | u::us=>u.toNat+2^w*yfw w us
def Fit (w:Nat) (us:List Int):Prop:=∀ u∈us,0≤u∧u<2^w
theorem Fit.cons {w:Nat} {u:Int} {us:List Int} (h:Fit w (u::us)):(0≤u∧u.toNat<2^w)∧Fit w us:=by
 refine⟨?_,fun y hy=>h y (by simp [hy])⟩
 have h1:=h u (by simp)
 refine⟨h1.1,?_⟩
 obtain⟨n,rfl⟩:=Int.eq_ofNat_of_zero_le h1.1
 have:=h1.2
 rw[Int.toNat_natCast]
 exact_mod_cast this
theorem Fit.take {w:Nat} {us:List Int} (h:Fit w us) (n:Nat):Fit w (us.take n):=fun x hx=>h x (List.mem_of_mem_take hx)
theorem yq3 (w:Nat) (us:List Int) (u:Int):yfw w (us++[u])=yfw w us+u.toNat*2^(w*us.length):=by
 induction us with
 | nil=>simp [yfw]
 | cons x us ih =>
  simp only[List.cons_append,yfw,ih,List.length_cons]
  rw[Nat.mul_add,Nat.add_assoc]
  congr 2
  rw[Nat.mul_add w us.length 1,Nat.mul_one,Nat.pow_add,Nat.mul_comm (2^(w*us.length)) (2^w),← Nat.mul_assoc,← Nat.mul_assoc,Nat.mul_comm (2^w) u.toNat]
theorem ylq {w:Nat} {us:List Int} (h:Fit w us):yfw w us<2^(w*us.length):=by
 induction us with
 | nil=>simp [yfw]
 | cons u us ih =>
  obtain⟨hu,hus⟩:=h.cons
  have h1:=ih hus
  simp only[yfw,List.length_cons]
  rw[Nat.mul_add w us.length 1,Nat.mul_one,Nat.pow_add,Nat.mul_comm (2^(w*us.length)) (2^w)]
  have h2:2^w*(yfw w us+1)≤2^w*2^(w*us.length):=Nat.mul_le_mul_left _ h1
  rw[Nat.mul_add] at h2
  omega
theorem packN_get {w:Nat} {us:List Int} (h:Fit w us) {i:Nat} (hi:i<us.length):yfw w us / 2^(w*i)%2^w=us[i].toNat:=by
 induction us generalizing i with
 | nil=>simp at hi
 | cons u us ih =>
  obtain⟨hu,hus⟩:=h.cons
  cases i with
  | zero=>simp only[yfw,Nat.mul_zero,Nat.pow_zero,Nat.div_one,List.getElem_cons_zero,Nat.add_mul_mod_self_left];exact Nat.mod_eq_of_lt hu.2
  | succ i =>
   have:=ih hus (by simpa using hi)
   simp only[yfw,List.getElem_cons_succ]
   rw[Nat.mul_add w i 1,Nat.mul_one,Nat.add_comm (w*i) w,Nat.pow_add,← Nat.div_div_eq_div_mul,Nat.add_mul_div_left _ _ (Nat.pow_pos (by decide)),Nat.div_eq_of_lt hu.2,Nat.zero_add]
   exact this
def yed (w:Nat) (us:List Int):List Int:=yd8 ((w*us.length+7) / 8) (yfw w us)
theorem byte_lt {out:List Int} (hb:Bys out) {p q r:Nat} (hp:p=8*q+r) (hq:q<out.length) (hX:le out<2^p):out[q].toNat<2^r:=by
 rw[← le_get hb hq]
 refine Nat.lt_of_le_of_lt (Nat.mod_le _ _) (Nat.div_lt_of_lt_mul ?_)
 rw[yhy,← Nat.pow_add,← hp]
 exact hX
theorem ydm (n:Int) (h₀:0≤n) (h₁:n<2^62):IntKind.i64.wrap n=n:=by rw[IntKind.wrap_i64];omega
theorem and7 (p:Nat) (h:p<4611686018427387904):Go.bits .and .i64 (p:Int) 7=((p%8:Nat):Int):=by
 have:=bits_mask .i64 62 (by decide) ydm 3 (by decide) (p:Int) (by omega) (by omega)
 have h2:Go.bits .and .i64 (p:Int) 7=(p:Int)%8:=by simpa using this
 omega
theorem ykw {t:Nat} (h:t≤8):2^t≤256:=Nat.pow_le_pow_right (n:=2) (by decide) h
theorem mask64 {v t:Nat} (ht:t≤8) (hv:v<18446744073709551616):Go.bits .and .u64 (v:Int) (IntKind.u64.wrap ((shl .u64 1 (t:Int))-1))=((v%2^t:Nat):Int):=by
 have h1:=ykw ht
 have h0:0<2^t:=Nat.pow_pos (by decide)
 have e1:shl .u64 1 (t:Int)=((2^t:Nat):Int):=by
  unfold shl
  rw[show min ((t:Nat):Int).toNat IntKind.u64.bits=t from by simp [IntKind.bits];omega,Int.one_mul,show((2:Int)^t)=((2^t:Nat):Int) from by simp]
  exact wraps_u64 _ (by omega) (by omega)
 rw[e1,wraps_u64 _ (by omega) (by omega),show(((2^t:Nat):Int)-1)=(2:Int)^t-1 from by simp,bits_mask .u64 64 (by decide) wraps_u64 t (by omega) (v:Int) (by omega) (by omega)]
 simp
theorem pack_byte {b v r t:Nat} (hr:r<8) (ht:t+r≤8) (hb:b<2^r) (hv:v<18446744073709551616) :
  Go.bits .or .u8 (b:Int) (shl .u8 ((Go.bits .and .u64 (v:Int) (IntKind.u64.wrap ((shl .u64 1 (t:Int))-1)))%256) (r:Int))=((b+v%2^t*2^r:Nat):Int)∧b+v%2^t*2^r<256:=by
 have h1:=ykw (t:=t) (by omega)
 have h0:0<2^t:=Nat.pow_pos (by decide)
 have h2:v%2^t<2^t:=Nat.mod_lt _ h0
 have h3:(v%2^t+1)*2^r≤2^t*2^r:=Nat.mul_le_mul_right _ h2
 rw[← Nat.pow_add] at h3
 have h4:=ykw ht
 rw[Nat.add_mul,Nat.one_mul] at h3
 have hr8:=ykw (t:=r) (by omega)
 refine⟨?_,by omega⟩
 rw[mask64 (by omega) hv,show((v%2^t:Nat):Int)%256=((v%2^t:Nat):Int) from by omega]
 have e2:shl .u8 ((v%2^t:Nat):Int) (r:Int)=((v%2^t*2^r:Nat):Int):=by
  unfold shl
  rw[show min ((r:Nat):Int).toNat IntKind.u8.bits=r from by simp [IntKind.bits];omega,show((v%2^t:Nat):Int)*2^r=((v%2^t*2^r:Nat):Int) from by simp]
  exact wraps_u8 _ (by omega) (by omega)
 rw[e2,bits_join_low .u8 8 (by decide) wraps_u8 r _ _ (by omega) (by exact_mod_cast hb) (by omega) (by omega) ?_ (by omega)]
 ·omega
 ·have:(v%2^t*2^r)%2^r=0:=Nat.mul_mod_left _ _
  exact_mod_cast this
theorem shr64 {v t:Nat} (ht:t≤64):shr .u64 (v:Int) (t:Int)=((v / 2^t:Nat):Int):=by
 unfold shr
 rw[show min ((t:Nat):Int).toNat IntKind.u64.bits=t from by simp [IntKind.bits];omega]
 simp
theorem mn_nat (a b:Nat):mn (a:Int) (b:Int)=((min a b:Nat):Int):=by
 unfold mn
 split <;> omega
theorem split_low (v t:Nat):v%2^t+v / 2^t*2^t=v:=by
 have:=Nat.mod_add_div v (2^t)
 rw[Nat.mul_comm] at this
 exact this
theorem pack_in (w us len i):∀ (n left:Nat),left≤n→∀ (out:List Int) (p v:Nat),Bys out→le out<2^p→p+left≤8*out.length→v<2^left→left≤64→p+left<1099511627776 →
  ∃ out',Bys out'∧out'.length=out.length∧le out'=le out+v*2^p∧∀ res,Ev (fun k=>ya9.l0 k w out' ((p+left:Nat):Int) us len (wrap64 (i+1))) res→Ev (fun k=>ya9.l1 k w out (p:Int) (v:Int) (left:Int) us len i) res:=by
 intro n
 induction n with
 | zero =>
  intro left hn out p v hb hX hlen hv h64 hp
  obtain rfl:left=0:=by omega
  have hv0:v=0:=by simpa using hv
  subst hv0
  refine⟨out,hb,rfl,by simp,fun res h=>Ev.step (fun k=>?_) h⟩
  rw[ya9.l1,if_neg (by omega),Nat.add_zero]
 | succ n ih =>
  intro left hn out p v hb hX hlen hv h64 hp
  rcases Nat.eq_zero_or_pos left with h0|h0
  ·subst h0
   have hv0:v=0:=by simpa using hv
   subst hv0
   refine⟨out,hb,rfl,by simp,fun res h=>Ev.step (fun k=>?_) h⟩
   rw[ya9.l1,if_neg (by omega),Nat.add_zero]
  ·obtain⟨q,hq⟩:∃ q,q=p / 8:=⟨_,rfl⟩
   obtain⟨r,hr⟩:∃ r,r=p%8:=⟨_,rfl⟩
   obtain⟨t,ht⟩:∃ t,t=min (8-r) left:=⟨_,rfl⟩
   have hpq:p=8*q+r:=by omega
   have hql:q<out.length:=by omega
   have hv64:v<18446744073709551616:=Nat.lt_of_lt_of_le hv (Nat.pow_le_pow_right (by decide) h64)
   have hbl:=byte_lt hb hpq hql hX
   have hpb:=pack_byte (b:=out[q].toNat) (v:=v) (r:=r) (t:=t) (by omega) (by omega) hbl hv64
   have hby:=hb out[q] (List.getElem_mem hql)
   have hset:=yq2 hql (v%2^t*2^r)
   have e256:v%2^t*2^r*256^q=v%2^t*2^p:=by rw[yhy,Nat.mul_assoc,← Nat.pow_add,hpq,Nat.add_comm]
   rw[e256] at hset
   have hvt:v%2^t<2^t:=Nat.mod_lt _ (Nat.pow_pos (by decide))
   have hX':le (out.set q ((out[q].toNat+v%2^t*2^r:Nat):Int))<2^(p+t):=by
    have h3:(v%2^t+1)*2^p≤2^t*2^p:=Nat.mul_le_mul_right _ hvt
    rw[Nat.add_mul,Nat.one_mul] at h3
    rw[hset,Nat.pow_add,Nat.mul_comm (2^p)]
    omega
   have hvl:v / 2^t<2^(left-t):=by
    refine Nat.div_lt_of_lt_mul ?_
    rw[← Nat.pow_add,show t+(left-t)=left from by omega]
    exact hv
   obtain⟨out',k1,k2,k3,k4⟩:=ih (left-t) (by omega) (out.set q ((out[q].toNat+v%2^t*2^r:Nat):Int)) (p+t) (v / 2^t) (hb.set (by omega)) hX' (by simp;omega) hvl (by omega) (by omega)
   refine⟨out',k1,by simpa using k2,?_,fun res h=>?_⟩
   ·rw[k3,hset,Nat.pow_add,Nat.add_assoc]
    congr 1
    have:=split_low v t
    conv=>rhs;rw[← this,Nat.add_mul]
    congr 1
    rw[Nat.mul_comm (2^p) (2^t),Nat.mul_assoc]
   ·refine Ev.step (g:=fun k=>ya9.l1 k w (out.set q ((out[q].toNat+v%2^t*2^r:Nat):Int)) ((p+t:Nat):Int) ((v / 2^t:Nat):Int) ((left-t:Nat):Int) us len i) (fun k=>?_) (k4 res (by rw[show p+t+(left-t)=p+left from by omega];exact h))
    have ea:Go.bits .and .i64 (p:Int) 7=(r:Int):=by rw[and7 p (by omega),← hr]
    have em:mn (wrap64 (8-(r:Int))) (left:Int)=(t:Int):=by
     rw[w64 (by omega) (by omega),show(8:Int)-r=((8-r:Nat):Int) from by omega,mn_nat,← ht]
    have eq:(p:Int) / 8=(q:Int):=by omega
    have et:IntKind.u64.wrap (t:Int)=(t:Int):=wraps_u64 _ (by omega) (by omega)
    have er:IntKind.u64.wrap (r:Int)=(r:Int):=wraps_u64 _ (by omega) (by omega)
    have ey:rd out (q:Int)=((out[q].toNat:Nat):Int):=by rw[ybj hql];omega
    rw[ya9.l1,if_pos (by omega),ea,em,eq,et,er,if_pos (by omega),if_pos (by omega),if_pos (by omega),if_pos (by omega),ey,hpb.1,shr64 (by omega),Int.toNat_natCast,
     show wrap64 ((p:Int)+t)=((p+t:Nat):Int) from by rw[w64 (by omega) (by omega)];omega,show wrap64 ((left:Int)-t)=((left-t:Nat):Int) from by rw[w64 (by omega) (by omega)];omega]
theorem pack_out {w:Nat} (hw:w≤64) {us:List Int} (hf:Fit w us) (hl:us.length≤4096):∀ (n i:Nat) (out:List Int),i+n=us.length→Bys out→out.length=(w*us.length+7) / 8→le out=yfw w (us.take i) →
  Ev (fun k=>ya9.l0 k (w:Int) out ((w*i:Nat):Int) us (us.length:Int) (i:Int)) (yed w us,0):=by
 intro n
 induction n with
 | zero =>
  intro i out h hb hlen hX
  refine Ev.step (fun k=>?_) (Ev.now _)
  rw[ya9.l0,if_neg (by omega)]
  rw[List.take_of_length_le (by omega)] at hX
  rw[← yj3 hb,hlen,hX]
  rfl
 | succ n ih =>
  intro i out h hb hlen hX
  have hi:i<us.length:=by omega
  have hu:=(hf us[i] (List.getElem_mem hi))
  have hu2:us[i].toNat<2^w:=by
   obtain⟨m,hm⟩:=Int.eq_ofNat_of_zero_le hu.1
   rw[hm] at hu ⊢
   rw[Int.toNat_natCast]
   exact_mod_cast hu.2
  have hwi:w*i≤64*4096:=Nat.mul_le_mul hw (by omega)
  have hwl:w*i+w≤w*us.length:=by
   have:w*(i+1)≤w*us.length:=Nat.mul_le_mul_left _ hi
   rwa [Nat.mul_add,Nat.mul_one] at this
  have hlt:=ylq (hf.take i)
  rw[← hX,List.length_take,Nat.min_eq_left (by omega)] at hlt
  obtain⟨out',k1,k2,k3,k4⟩:=pack_in (w:Int) us (us.length:Int) (i:Int) w w (Nat.le_refl _) out (w*i) us[i].toNat hb hlt (by omega) hu2 hw (by omega)
  refine Ev.step (g:=fun k=>ya9.l1 k (w:Int) out ((w*i:Nat):Int) ((us[i].toNat:Nat):Int) (w:Int) us (us.length:Int) (i:Int)) (fun k=>?_) (k4 _ ?_)
  ·rw[ya9.l0,if_pos (by omega),if_pos (by omega),if_pos (by omega),ybj hi,Int.toNat_of_nonneg hu.1]
  ·rw[w64s i (by omega),show w*i+w=w*(i+1) from by rw[Nat.mul_add,Nat.mul_one]]
   refine ih (i+1) out' (by omega) k1 (by omega) ?_
   rw[k3,hX,← ybd us i hi,yq3,List.length_take,Nat.min_eq_left (by omega)]
theorem or_lt {w:Nat} (hw:w≤64) {us:List Int} (hf:Fit w us):∀ (n i a:Nat),i+n=us.length→us.length≤9223372036854775806→a<2^w→∃ b:Nat,b<2^w∧Ev (fun k=>ybb.l0 k (a:Int) us (us.length:Int) (i:Int)) ((Lib.bitLen b:Nat):Int):=by
 have hp:2^w≤18446744073709551616:=Nat.pow_le_pow_right (n:=2) (by decide) hw
 intro n
 induction n with
 | zero =>
  intro i a h hl ha
  refine⟨a,ha,Ev.step (fun k=>?_) (Ev.now _)⟩
  rw[ybb.l0,if_neg (by omega)]
  unfold bits_Len64.f
  rw[if_pos (by omega),if_pos (by omega),Option.bind_some,Int.toNat_natCast]
 | succ n ih =>
  intro i a h hl ha
  have hi:i<us.length:=by omega
  have hu:=(hf us[i] (List.getElem_mem hi))
  have hu2:us[i].toNat<2^w:=by
   obtain⟨m,hm⟩:=Int.eq_ofNat_of_zero_le hu.1
   rw[hm] at hu ⊢
   rw[Int.toNat_natCast]
   exact_mod_cast hu.2
  obtain⟨b,hb,he⟩:=ih (i+1) (a ||| us[i].toNat) (by omega) hl (Nat.or_lt_two_pow ha hu2)
  refine⟨b,hb,Ev.step (fun k=>?_) he⟩
  rw[ybb.l0,if_pos (by omega),if_pos (by omega),if_pos (by omega),ybj hi,w64s i (by omega)]
  have:Go.bits .or .u64 (a:Int) us[i]=((a ||| us[i].toNat:Nat):Int):=by
   conv=>lhs;rw[← Int.toNat_of_nonneg hu.1]
   exact bits_or_u64_nat a us[i].toNat (by omega) (by omega)
  rw[this]
theorem width_le {w:Nat} (hw:w≤64) {us:List Int} (hf:Fit w us) (hl:us.length≤9223372036854775806):∃ b:Nat,b≤w∧Ev (fun k=>ybb.f k us) (b:Int):=by
 obtain⟨b,hb,he⟩:=or_lt hw hf us.length 0 0 (by omega) hl (Nat.pow_pos (by decide))
 exact⟨_,Lib.bitLen_le b w hw hb,he⟩
theorem width_one (x:Nat) (hx:x<18446744073709551616):Ev (fun k=>ybb.f k [(x:Int)]) ((Lib.bitLen x:Nat):Int):=by
 refine Ev.step (g:=fun k=>ybb.l0 k (x:Int) [(x:Int)] 1 1) (fun k=>?_) (Ev.step (fun k=>?_) (Ev.now _))
 ·unfold ybb.f
  rw[ybb.l0,if_pos (by simp),if_pos (by simp),if_pos (by simp)]
  have:Go.bits .or .u64 (0:Int) (x:Int)=(x:Int):=by
   have:=bits_or_u64_nat 0 x (by omega) hx
   simpa using this
  rw[show rd [(x:Int)] 0=x from rfl,this,show wrap64 (0+1)=1 from by rw[w64 (by omega) (by omega)];rfl]
  rfl
 ·rw[ybb.l0,if_neg (by omega)]
  unfold bits_Len64.f
  rw[if_pos (by omega),if_pos (by omega),Option.bind_some,Int.toNat_natCast]
def wid (n:Nat):Nat:=Lib.bitLen (n-1)
theorem yjc (n:Nat) (h:n≤4096):wid n≤12:=Lib.bitLen_le _ 12 (by decide) (by omega)
theorem yl2 (n:Nat) (hn:n≤4611686018427387904):Ev (fun k=>ygz.f k (n:Int)) ((wid n:Nat):Int):=by
 have e:IntKind.u64.wrap (mx (wrap64 ((n:Int)-1)) 0)=((n-1:Nat):Int):=by
  rw[w64 (by omega) (by omega)]
  unfold mx
  split
  ·rw[wraps_u64 _ (by omega) (by omega)];omega
  ·rw[wraps_u64 _ (by omega) (by omega)];omega
 refine Ev.same (g:=fun k=>(ybb.f k [((n-1:Nat):Int)]).bind fun t=>some t) (fun k=>?_) (Ev.bind (width_one (n-1) (by omega)) (Ev.now _))
 unfold ygz.f
 rw[e]
theorem ppack {w:Nat} (hw:w≤64) {us:List Int} (hf:Fit w us) (hl:us.length≤4096):Ev (fun k=>ya9.f k (w:Int) us) (yed w us,0):=by
 obtain⟨b,hb,he⟩:=width_le hw hf (by omega)
 have hwl:w*us.length≤64*4096:=Nat.mul_le_mul hw hl
 have hmain:=pack_out hw hf hl us.length 0 (List.replicate ((w*us.length+7) / 8) 0) (by omega) (Bys.zeros _) (by simp) (by rw[le_zeros];rfl)
 refine Ev.same (g:=fun k=>(ybb.f k us).bind fun t=>if t > (w:Int) then some (([]:List Int),10) else ya9.l0 k (w:Int) (List.replicate ((w*us.length+7) / 8) 0) 0 us (us.length:Int) 0) (fun k=>?_) (Ev.bind he (Ev.same (fun k=>?_) hmain))
 ·unfold ya9.f
  unfold yc2.f
  have e1:ydg.f (w:Int) (us.length:Int)=some ((((w*us.length+7) / 8:Nat)):Int):=by
   unfold ydg.f
   rw[← Int.natCast_mul,w64 (n:=((w*us.length:Nat):Int)) (by omega) (by omega),w64 (n:=((w*us.length:Nat):Int)+7) (by omega) (by omega),Int.tdiv_eq_ediv_of_nonneg (by omega),w64 (by omega) (by omega)]
   congr 1
  rw[if_neg (by omega),Option.bind_some,if_neg (by simp;omega),if_neg (by omega),e1]
  simp only[Option.bind_some]
  rw[if_pos (by omega),Int.toNat_natCast,if_pos (by omega)]
 ·rw[if_neg (by omega)]
  rfl
theorem rw_in (us):∀ (f v c m i:Nat),v<2^f→f≤64→c+f<1000→∀ res,Ev (fun k=>yal.l0 k us (((max m (c+Lib.bitLen v):Nat)):Int) (wrap64 (i+1))) res→Ev (fun k=>yal.l1 k us (m:Int) (i:Int) (c:Int) (v:Int)) res:=by
 intro f
 induction f with
 | zero =>
  intro v c m i hv hf hc res h
  obtain rfl:v=0:=by simpa using hv
  refine Ev.step (fun k=>?_) h
  rw[yal.l1,if_neg (by omega),show Lib.bitLen 0=0 from rfl,Nat.add_zero]
  by_cases h1:(c:Int) > (m:Int)
  ·rw[if_pos h1,Nat.max_eq_right (by omega)]
  ·rw[if_neg h1,Nat.max_eq_left (by omega)]
 | succ f ih =>
  intro v c m i hv hf hc res h
  have hp:2^(f+1)≤18446744073709551616:=Nat.pow_le_pow_right (n:=2) (by decide) hf
  by_cases h0:v=0
  ·subst h0
   refine Ev.step (fun k=>?_) h
   rw[yal.l1,if_neg (by omega),show Lib.bitLen 0=0 from rfl,Nat.add_zero]
   by_cases h1:(c:Int) > (m:Int)
   ·rw[if_pos h1,Nat.max_eq_right (by omega)]
   ·rw[if_neg h1,Nat.max_eq_left (by omega)]
  ·have hh:=Lib.bitLen_half v h0 (by omega)
   refine Ev.step (fun k=>?_) (ih (v / 2) (c+1) m i (by rw[Nat.pow_succ] at hv;omega) (by omega) (by omega) res (by rw[show c+1+Lib.bitLen (v / 2)=c+Lib.bitLen v from by omega];exact h))
   rw[yal.l1,if_pos (by omega),w64s c (by omega),Int.tdiv_eq_ediv_of_nonneg (by omega),wraps_u64 _ (by omega) (by omega),show(v:Int) / 2=((v / 2:Nat):Int) from by omega]
theorem yq1 (x:Nat) (hx:x<18446744073709551616):Ev (fun k=>yal.f k [(x:Int)]) ((Lib.bitLen x:Nat):Int):=by
 refine Ev.step (g:=fun k=>yal.l1 k [(x:Int)] ((0:Nat):Int) ((0:Nat):Int) ((0:Nat):Int) (x:Int)) (fun k=>?_) (rw_in [(x:Int)] 64 x 0 0 0 (by omega) (by omega) (by omega) _ ?_)
 ·unfold yal.f
  rw[yal.l0,if_pos (by simp),if_pos (by simp)]
  rfl
 ·refine Ev.step (fun k=>?_) (Ev.now _)
  rw[show wrap64 (((0:Nat):Int)+1)=1 from by rw[w64 (by omega) (by omega)];rfl,yal.l0,if_neg (by simp)]
  simp
theorem power_law (r:Nat) (hr:r≤63):Ev (fun k=>ybk.f k (r:Int)) ((2^r:Nat):Int):=by
 have key:∀ n i:Nat,i+n=r→Ev (fun k=>ybk.l0 k (r:Int) ((2^i:Nat):Int) (i:Int)) ((2^r:Nat):Int):=by
  intro n
  induction n with
  | zero =>
   intro i h
   refine Ev.step (fun k=>?_) (Ev.now _)
   rw[ybk.l0,if_neg (by omega),show i=r from by omega]
  | succ n ih =>
   intro i h
   refine Ev.step (fun k=>?_) (ih (i+1) (by omega))
   have h1:2^(i+1)≤2^63:=Nat.pow_le_pow_right (by decide) (by omega)
   rw[ybk.l0,if_pos (by omega),w64s i (by omega)]
   rw[Nat.pow_succ] at h1 ⊢
   rw[wraps_u64 _ (by omega) (by omega)]
   congr 1
 exact key r 0 (by omega)
theorem yno {b:List Int} (hb:Bys b) {p q r t:Nat} (hp:p=8*q+r) (hq:q<b.length) (ht:t+r≤8):b[q].toNat / 2^r%2^t=le b / 2^p%2^t:=by
 rw[← le_get hb hq,hp,Nat.pow_add,← Nat.div_div_eq_div_mul,← yhy]
 rw[show(256:Nat)=2^r*2^(8-r) from by rw[← Nat.pow_add,show r+(8-r)=8 from by omega],Nat.mod_mul_right_div_self]
 rw[Nat.mod_mod_of_dvd _ (Nat.pow_dvd_pow 2 (by omega))]
theorem read_in {b:List Int} (hb:Bys b) (hl:b.length<1000000000000000) {w:Nat} (hw:w≤64) (p0:Nat) (hp0:p0+w≤8*b.length):∀ (n g:Nat),w-g≤n→g≤w →
  Ev (fun k=>yck.l0 k b ((p0+g:Nat):Int) (w:Int) ((le b / 2^p0%2^g:Nat):Int) (g:Int)) ((le b / 2^p0%2^w:Nat):Int):=by
 intro n
 induction n with
 | zero =>
  intro g hg hgw
  obtain rfl:g=w:=by omega
  refine Ev.step (fun k=>?_) (Ev.now _)
  rw[yck.l0,if_neg (by omega)]
 | succ n ih =>
  intro g hg hgw
  by_cases h0:g=w
  ·subst h0
   refine Ev.step (fun k=>?_) (Ev.now _)
   rw[yck.l0,if_neg (by omega)]
  ·obtain⟨p,hpe⟩:∃ p,p=p0+g:=⟨_,rfl⟩
   obtain⟨q,hq⟩:∃ q,q=p / 8:=⟨_,rfl⟩
   obtain⟨r,hr⟩:∃ r,r=p%8:=⟨_,rfl⟩
   obtain⟨t,ht⟩:∃ t,t=min (8-r) (w-g):=⟨_,rfl⟩
   have hpq:p=8*q+r:=by omega
   have hql:q<b.length:=by omega
   refine Ev.step (fun k=>?_) (ih (g+t) (by omega) (by omega))
   have ea:Go.bits .and .i64 (p:Int) 7=(r:Int):=by
    rw[and7 p (by omega),← hr]
   have em:mn (wrap64 (8-(r:Int))) (wrap64 ((w:Int)-g))=(t:Int):=by
    rw[w64 (by omega) (by omega),w64 (by omega) (by omega),show(8:Int)-r=((8-r:Nat):Int) from by omega,show(w:Int)-g=((w-g:Nat):Int) from by omega,mn_nat,← ht]
   have eq:(p:Int) / 8=(q:Int):=by omega
   have et:IntKind.u64.wrap (t:Int)=(t:Int):=wraps_u64 _ (by omega) (by omega)
   have er:IntKind.u64.wrap (r:Int)=(r:Int):=wraps_u64 _ (by omega) (by omega)
   have eg:IntKind.u64.wrap (g:Int)=(g:Int):=wraps_u64 _ (by omega) (by omega)
   have hby:=hb b[q] (List.getElem_mem hql)
   have ey:rd b (q:Int)=((b[q].toNat:Nat):Int):=by rw[ybj hql];omega
   have es:shr .u8 ((b[q].toNat:Nat):Int) (r:Int)=((b[q].toNat / 2^r:Nat):Int):=by
    unfold shr
    rw[show min ((r:Nat):Int).toNat IntKind.u8.bits=r from by simp [IntKind.bits];omega]
    simp
   have hsm:b[q].toNat / 2^r≤b[q].toNat:=Nat.div_le_self _ _
   have hbb:=yno hb hpq hql (t:=t) (by omega)
   obtain⟨y,hy⟩:∃ y,y=b[q].toNat / 2^r:=⟨_,rfl⟩
   rw[← hy] at es hsm hbb
   obtain⟨z,hz⟩:∃ z,z=le b / 2^p%2^t:=⟨_,rfl⟩
   rw[← hz] at hbb
   obtain⟨v,hv'⟩:∃ v,v=le b / 2^p0%2^g:=⟨_,rfl⟩
   have e1:IntKind.u64.wrap (y:Int)=(y:Int):=wraps_u64 _ (by omega) (by omega)
   have e2:Go.bits .and .u64 (y:Int) (IntKind.u64.wrap ((shl .u64 1 (t:Int))-1))=(z:Int):=by
    rw[mask64 (by omega) (by omega),hbb]
   have hx:z<2^t:=by rw[hz];exact Nat.mod_lt _ (Nat.pow_pos (by decide))
   have h3:(z+1)*2^g≤2^t*2^g:=Nat.mul_le_mul_right _ hx
   rw[← Nat.pow_add,Nat.add_mul,Nat.one_mul] at h3
   have h4:2^(t+g)≤18446744073709551616:=Nat.pow_le_pow_right (n:=2) (j:=64) (by decide) (by omega)
   have h5:0<2^g:=Nat.pow_pos (by decide)
   have hv:v<2^g:=by rw[hv'];exact Nat.mod_lt _ h5
   have hv64:v<18446744073709551616:=by omega
   have hz64:z*2^g<18446744073709551616:=by omega
   have e3:shl .u64 (z:Int) (g:Int)=((z*2^g:Nat):Int):=by
    unfold shl
    rw[show min ((g:Nat):Int).toNat IntKind.u64.bits=g from by simp [IntKind.bits];omega,show(z:Int)*2^g=((z*2^g:Nat):Int) from by simp]
    exact wraps_u64 _ (by omega) (by exact_mod_cast hz64)
   have e4:Go.bits .or .u64 (v:Int) ((z*2^g:Nat):Int)=((le b / 2^p0%2^(g+t):Nat):Int):=by
    rw[bits_join_low .u64 64 (by decide) wraps_u64 g _ _ (by omega) (by exact_mod_cast hv) (by exact_mod_cast hv64) (by omega) ?_ (by exact_mod_cast hz64)]
    ·rw[Nat.pow_add,Nat.mod_mul,Nat.div_div_eq_div_mul,← Nat.pow_add,← hpe,Nat.mul_comm (2^g),← hz,← hv']
     omega
    ·have:(z*2^g)%2^g=0:=Nat.mul_mod_left _ _
     exact_mod_cast this
   rw[← hv']
   rw[yck.l0,if_pos (by omega),← hpe,ea,em,eq,et,er,eg,if_pos (by omega),if_pos (by omega),if_pos (by omega),if_pos (by omega),if_pos (by omega),ey,es,e1,e2,e3,e4,
    show wrap64 ((p:Int)+t)=((p0+(g+t):Nat):Int) from by rw[w64 (by omega) (by omega)];omega,show wrap64 ((g:Int)+t)=((g+t:Nat):Int) from by rw[w64 (by omega) (by omega)];omega]
theorem read_law {b:List Int} (hb:Bys b) (hl:b.length<1000000000000000) {w:Nat} (hw:w≤64) (p:Nat) (hp:p+w≤8*b.length):Ev (fun k=>yck.f k b (p:Int) (w:Int)) ((le b / 2^p%2^w:Nat):Int):=by
 have:=read_in hb hl hw p hp w 0 (by omega) (by omega)
 rw[Nat.pow_zero,Nat.mod_one,Nat.add_zero] at this
 exact this
def ybq (b:List Int) (w m:Nat):List Int×Int:=
 if 8*b.length<w*m then ([],2) else if w*m+8≤8*b.length then ([],3) else if 2^(w*m)≤le b then ([],5) else ((List.range m).map fun i=>((le b / 2^(w*i)%2^w:Nat):Int),0)
theorem ymu (m i:Nat) (f:Nat→Int):((List.range m).map (fun j=>if j<i then f j else 0)).set i (f i)=(List.range m).map (fun j=>if j<i+1 then f j else 0):=by
 apply List.ext_getElem
 ·simp
 ·intro j h1 h2
  rw[List.getElem_set]
  simp only[List.getElem_map,List.getElem_range]
  by_cases h:i=j
  ·subst h;simp
  ·rw[if_neg h]
   by_cases h3:j<i
   ·rw[if_pos h3,if_pos (by omega)]
   ·rw[if_neg h3,if_neg (by omega)]
theorem unpack_l0 {b:List Int} (hb:Bys b) (hl:b.length<1000000000000000) {w m:Nat} (hw:w≤64) (hm:m≤4096) (hwm:w*m≤8*b.length):∀ n i:Nat,i+n=m →
  Ev (fun k=>yav.l0 k b (w:Int) ((List.range m).map fun j=>if j<i then ((le b / 2^(w*j)%2^w:Nat):Int) else 0) (m:Int) (i:Int)) ((List.range m).map fun i=>((le b / 2^(w*i)%2^w:Nat):Int),0):=by
 intro n
 induction n with
 | zero =>
  intro i h
  refine Ev.step (fun k=>?_) (Ev.now _)
  rw[yav.l0,if_neg (by omega)]
  congr 2
  refine List.map_congr_left fun j hj=>?_
  rw[List.mem_range] at hj
  rw[if_pos (by omega)]
 | succ n ih =>
  intro i h
  have hi:i<m:=by omega
  have hwl:w*i+w≤w*m:=by
   have:w*(i+1)≤w*m:=Nat.mul_le_mul_left _ hi
   rwa [Nat.mul_add,Nat.mul_one] at this
  have hwi:w*i≤64*4096:=Nat.mul_le_mul hw (by omega)
  refine Ev.step (g:=fun k=>(yck.f k b ((w*i:Nat):Int) (w:Int)).bind fun t=>yav.l0 k b (w:Int) (((List.range m).map fun j=>if j<i then ((le b / 2^(w*j)%2^w:Nat):Int) else 0).set i t) (m:Int) ((i+1:Nat):Int)) (fun k=>?_) (Ev.bind (read_law hb hl hw (w*i) (by omega)) ?_)
  ·rw[yav.l0,if_pos (by omega),show wrap64 ((i:Int)*w)=((w*i:Nat):Int) from by rw[← Int.natCast_mul,Nat.mul_comm,w64 (by omega) (by omega)]]
   congr 1
   funext t
   rw[if_pos (by omega),if_pos (by simp;omega),w64s i (by omega),Int.toNat_natCast]
  ·rw[ymu m i (fun j=>((le b / 2^(w*j)%2^w:Nat):Int))]
   exact ih (i+1) (by omega)
theorem need_law (w m:Nat) (h:w*m≤1000000000):ydg.f (w:Int) (m:Int)=some ((((w*m+7) / 8:Nat)):Int):=by
 unfold ydg.f
 rw[← Int.natCast_mul,w64 (n:=((w*m:Nat):Int)) (by omega) (by omega),w64 (n:=((w*m:Nat):Int)+7) (by omega) (by omega),Int.tdiv_eq_ediv_of_nonneg (by omega),w64 (by omega) (by omega)]
 congr 1
theorem ymm {b:List Int} (hb:Bys b) (hl:b.length<1000000000000000) {w m:Nat} (hw:w≤64) (hm:m≤4096):Ev (fun k=>yav.f k b (w:Int) (m:Int)) (ybq b w m):=by
 have hwm:w*m≤64*4096:=Nat.mul_le_mul hw hm
 refine Ev.same (g:=fun k=>yav.j0 k b (w:Int) (m:Int) false) (fun k=>?_) ?_
 ·unfold yav.f
  unfold yc2.f
  rw[if_neg (by omega),Option.bind_some,if_neg (by simp;omega),if_neg (by omega)]
  congr 1
  simp
  omega
 ·have need:=need_law w m (by omega)
  have hlt:=le_lt hb
  rw[yhy] at hlt
  have hj:∀ q:Bool,w*m≤8*b.length→q=decide (2^(w*m)≤le b)→Ev (fun k=>yav.j1 k b (w:Int) (m:Int) q) (if 2^(w*m)≤le b then ([],5) else ((List.range m).map fun i=>((le b / 2^(w*i)%2^w:Nat):Int),0)):=by
   rintro q hle rfl
   by_cases h5:2^(w*m)≤le b
   ·rw[if_pos h5]
    refine Ev.step (fun k=>?_) (Ev.now _)
    rw[yav.j1,if_pos (by simp [h5])]
   ·rw[if_neg h5]
    refine Ev.step (fun k=>?_) (unpack_l0 hb hl hw hm hle m 0 (by omega))
    rw[yav.j1,if_neg (by simp;omega),if_pos (by omega),if_pos (by simp;omega)]
    congr 1
    apply List.ext_getElem
    ·simp
    ·intro j h1 h2
     simp
  unfold ybq
  by_cases h2:8*b.length<w*m
  ·rw[if_pos h2]
   refine Ev.step (fun k=>?_) (Ev.now _)
   rw[yav.j0,if_neg (by simp),need,Option.bind_some,if_pos (by omega)]
  ·rw[if_neg h2]
   by_cases h3:w*m+8≤8*b.length
   ·rw[if_pos h3]
    refine Ev.step (fun k=>?_) (Ev.now _)
    rw[yav.j0,if_neg (by simp),need,Option.bind_some,if_neg (by omega),Option.bind_some,if_pos (by omega)]
   ·rw[if_neg h3]
    have es:wrap64 ((wrap64 ((b.length:Int)*8))-(wrap64 ((w:Int)*(m:Int))))=((8*b.length-w*m:Nat):Int):=by
     rw[← Int.natCast_mul w m,w64 (n:=(b.length:Int)*8) (by omega) (by omega),w64 (n:=((w*m:Nat):Int)) (by omega) (by omega),w64 (by omega) (by omega)]
     omega
    by_cases h0:w*m=8*b.length
    ·refine Ev.step (fun k=>?_) (hj false (by omega) (by rw[h0];simp;omega))
     rw[yav.j0,if_neg (by simp),need,Option.bind_some,if_neg (by omega),Option.bind_some,if_neg (by omega),es,if_neg (by omega)]
    ·have hlen:b.length-1<b.length:=by omega
     obtain⟨r,hr⟩:∃ r,r=8-(8*b.length-w*m):=⟨_,rfl⟩
     have hwr:w*m=8*(b.length-1)+r:=by omega
     have hby:=hb b[b.length-1] (List.getElem_mem hlen)
     have ey:rd b (((b.length-1:Nat)):Int)=((b[b.length-1].toNat:Nat):Int):=by rw[ybj hlen];omega
     have el:wrap64 ((b.length:Int)-1)=((b.length-1:Nat):Int):=by rw[w64 (by omega) (by omega)];omega
     have er:IntKind.u64.wrap (wrap64 (8-((8*b.length-w*m:Nat):Int)))=(r:Int):=by rw[w64 (by omega) (by omega),wraps_u64 _ (by omega) (by omega)];omega
     have esh:shr .u8 ((b[b.length-1].toNat:Nat):Int) (r:Int)=((b[b.length-1].toNat / 2^r:Nat):Int):=by
      unfold shr
      rw[show min ((r:Nat):Int).toNat IntKind.u8.bits=r from by simp [IntKind.bits];omega]
      simp
     have ed:b[b.length-1].toNat / 2^r=le b / 2^(w*m):=by
      have h6:le b / 256^(b.length-1)<256:=by
       refine Nat.div_lt_of_lt_mul ?_
       rw[← Nat.pow_succ,yhy,show(b.length-1).succ=b.length from by omega]
       exact hlt
      rw[← le_get hb hlen,Nat.mod_eq_of_lt h6,hwr,Nat.pow_add,← Nat.div_div_eq_div_mul,← yhy]
     refine Ev.step (fun k=>?_) (hj ((((b[b.length-1].toNat / 2^r:Nat):Int)) != 0) (by omega) ?_)
     ·rw[yav.j0,if_neg (by simp),need,Option.bind_some,if_neg (by omega),Option.bind_some,if_neg (by omega),es,if_pos (by omega),el,if_pos (by omega),if_pos (by omega),er,if_pos (by omega),ey,esh]
     ·rw[ed]
      have hpos:0<2^(w*m):=Nat.pow_pos (by decide)
      by_cases h5:2^(w*m)≤le b
      ·have:=Nat.div_pos h5 hpos
       rw[decide_eq_true h5]
       generalize le b / 2^(w*m)=D at *
       obtain⟨D',rfl⟩:∃ D',D=D'+1:=⟨D-1,by omega⟩
       rfl
      ·rw[decide_eq_false h5,Nat.div_eq_of_lt (by omega)]
       rfl
theorem yin (w:Nat) (us:List Int):(yed w us).length=(w*us.length+7) / 8:=yg9 _ _
theorem yki (w:Nat) (us:List Int):Bys (yed w us):=yqb _ _
theorem packS_le {w:Nat} {us:List Int} (hf:Fit w us):le (yed w us)=yfw w us:=by
 unfold yed
 rw[ynf,yhy]
 exact Nat.mod_eq_of_lt (Nat.lt_of_lt_of_le (ylq hf) (Nat.pow_le_pow_right (by decide) (by omega)))
theorem yi3 {w:Nat} {us:List Int} (hf:Fit w us):ybq (yed w us) w us.length=(us,0):=by
 have hlt:=ylq hf
 unfold ybq
 rw[yin,packS_le hf,if_neg (by omega),if_neg (by omega),if_neg (by omega)]
 congr 1
 apply List.ext_getElem
 ·simp
 ·intro i h1 h2
  simp only[List.getElem_map,List.getElem_range]
  rw[packN_get hf h2]
  exact Int.toNat_of_nonneg (hf us[i] (List.getElem_mem h2)).1
theorem packN_of (w:Nat):∀ (m X:Nat),X<2^(w*m)→yfw w ((List.range m).map fun i=>((X / 2^(w*i)%2^w:Nat):Int))=X:=by
 intro m
 induction m with
 | zero=>intro X h;simp at h;subst h;rfl
 | succ m ih =>
  intro X h
  have h1:X / 2^w<2^(w*m):=by
   refine Nat.div_lt_of_lt_mul ?_
   rw[← Nat.pow_add,Nat.add_comm w,← Nat.mul_succ]
   exact h
  have h2:=ih (X / 2^w) h1
  rw[List.range_succ_eq_map,List.map_cons,List.map_map]
  simp only[yfw,Nat.mul_zero,Nat.pow_zero,Nat.div_one,Int.toNat_natCast]
  have e:((fun i=>((X / 2^(w*i)%2^w:Nat):Int)) ∘ Nat.succ)=fun i=>((X / 2^w / 2^(w*i)%2^w:Nat):Int):=by
   funext i
   simp only[Function.comp,Nat.div_div_eq_div_mul,← Nat.pow_add]
   rw[Nat.mul_succ,Nat.add_comm]
  rw[e,h2]
  exact Nat.mod_add_div X (2^w)
theorem ygp {b:List Int} (hb:Bys b) {w m:Nat} {us:List Int} (h:ybq b w m=(us,0)):us.length=m∧Fit w us∧yed w us=b:=by
 unfold ybq at h
 split at h
 ·simp at h
 ·split at h
  ·simp at h
  ·split at h
   ·simp at h
   ·rename_i h2 h3 h5
    simp only[Prod.mk.injEq] at h
    obtain⟨rfl,_⟩:=h
    refine⟨by simp,fun u hu=>?_,?_⟩
    ·obtain⟨i,_,rfl⟩:=List.mem_map.1 hu
     have:=Nat.mod_lt (le b / 2^(w*i)) (Nat.pow_pos (n:=w) (show 0<2 by decide))
     exact⟨by omega,by exact_mod_cast this⟩
    ·unfold yed
     rw[packN_of w m (le b) (by omega),List.length_map,List.length_range,show(w*m+7) / 8=b.length from by omega]
     exact yj3 hb
theorem cat_ev (a b:List Int) (hl:a.length+b.length≤140737488355328):Ev (fun k=>yaz.f k a b) (a++b):=by
 have h1:∀ n i:Nat,i+n=b.length→Ev (fun k=>yaz.l1 k b (a++b.take i) (i:Int)) (a++b):=by
  intro n
  induction n with
  | zero =>
   intro i h
   refine Ev.step (fun k=>?_) (Ev.now _)
   rw[yaz.l1,if_neg (by omega),List.take_of_length_le (by omega)]
  | succ n ih =>
   intro i h
   have hi:i<b.length:=by omega
   refine Ev.step (fun k=>?_) (ih (i+1) (by omega))
   rw[yaz.l1,if_pos (by omega),if_pos (by omega),if_pos (by simp;omega),ybj hi,w64s i (by omega),List.append_assoc,ybd b i hi]
 have h0:∀ n i:Nat,i+n=a.length→Ev (fun k=>yaz.l0 k a b (a.take i) (i:Int)) (a++b):=by
  intro n
  induction n with
  | zero =>
   intro i h
   have:=h1 b.length 0 (by omega)
   rw[List.take_zero,List.append_nil] at this
   refine Ev.step (fun k=>?_) this
   rw[yaz.l0,if_neg (by omega),List.take_of_length_le (by omega)]
   rfl
  | succ n ih =>
   intro i h
   have hi:i<a.length:=by omega
   refine Ev.step (fun k=>?_) (ih (i+1) (by omega))
   rw[yaz.l0,if_pos (by omega),if_pos (by omega),if_pos (by simp;omega),ybj hi,w64s i (by omega),ybd a i hi]
 exact h0 a.length 0 (by omega)
def one (s:List Int):List Int:=vput s.length++s
def encB (es:List (List Int)) (us:List Int):List Int:=vput es.length++(es.map one).flatten++vput us.length++yed (wid es.length) us
def encS (ss:List (List Int)):List Int×Int:=if (idx ss).2.2=0 then (encB (idx ss).1 (idx ss).2.1,0) else ([],(idx ss).2.2)
theorem ym4:∀ (f x:Nat),x<2^f→x<2^Lib.bitLenAux f x:=by
 intro f
 induction f with
 | zero=>intro x h;simpa [Lib.bitLenAux] using h
 | succ f ih =>
  intro x h
  simp only[Lib.bitLenAux]
  split
  ·omega
  ·have:=ih (x / 2) (by rw[Nat.pow_succ] at h;omega)
   rw[Nat.add_comm,Nat.pow_succ]
   omega
theorem wid_fit {n u:Nat} (hn:n≤4096) (hu:u<n):u<2^wid n:=by
 have:=ym4 64 (n-1) (by omega)
 have h2:n-1<2^wid n:=this
 omega
theorem ymg {ss:List (List Int)} (h:(idx ss).2.2=0):ss.length≤4096∧(∀ s∈ss,s.length≤200)∧(idx ss).1=ents ss∧(idx ss).2.1=ss.map (fun s=>((pos (ents ss) s:Nat):Int)):=by
 unfold idx at h ⊢
 by_cases h1:4096<ss.length∨∃ s∈ss,200<s.length
 ·rw[if_pos h1] at h;simp at h
 ·rw[if_neg h1]
  refine⟨by omega,fun s hs=>?_,rfl,rfl⟩
  rcases Nat.lt_or_ge 200 s.length with h2|h2
  ·exact absurd (.inr ⟨s,hs,h2⟩) h1
  ·exact h2
theorem idx_no {ss:List (List Int)} (h:(idx ss).2.2≠0):idx ss=([],[],4):=by
 unfold idx at h ⊢
 by_cases h1:4096<ss.length∨∃ s∈ss,200<s.length
 ·rw[if_pos h1]
 ·rw[if_neg h1] at h;simp at h
theorem yng {ss:List (List Int)} (hl:ss.length≤4096):Fit (wid (ents ss).length) (ss.map (fun s=>((pos (ents ss) s:Nat):Int))):=by
 intro u hu
 obtain⟨s,hs,rfl⟩:=List.mem_map.1 hu
 obtain⟨h1,_⟩:=yj9 (ye3 ss) (yd0.2 hs)
 have h2:=yg5 ss
 have:=wid_fit (by omega) h1
 exact⟨by omega,by exact_mod_cast this⟩
theorem yre (s:List Int) (h:s.length≤200):(one s).length≤210:=by
 unfold one
 have:=ybg s.length
 simp;omega
theorem yi9 (es:List (List Int)) (h:∀ s∈es,s.length≤200):(es.map one).flatten.length≤210*es.length:=by
 induction es with
 | nil=>simp
 | cons s es ih =>
  have h1:=yre s (h s (by simp))
  have h2:=ih (fun x hx=>h x (by simp [hx]))
  simp only[List.map_cons,List.flatten_cons,List.length_append,List.length_cons]
  omega
theorem ygo (w:Nat) (us:List Int) (hw:w≤64) (hl:us.length≤4096):(yed w us).length≤40000:=by
 have h:w*us.length≤64*4096:=Nat.mul_le_mul hw hl
 rw[yin]
 omega
def ybw (b:List Int) (p:Nat):List Int×Nat×Int:=
 if (vget b p).2.2=0 then (if 200<(vget b p).1 then ([],0,4) else if b.length-(vget b p).2.1<(vget b p).1 then ([],0,2) else ((b.drop (vget b p).2.1).take (vget b p).1,(vget b p).2.1+(vget b p).1,0)) else ([],0,(vget b p).2.2)
def entS (b:List Int):Nat→Nat→List (List Int)→List (List Int)×Nat×Int
 | 0,p,es=>(es,p,0)
 | n+1,p,es=>if (ybw b p).2.2=0 then (if 0<es.length∧cmpL (ybw b p).1 (es.getD (es.length-1) [])≤0 then ([],0,5) else entS b n (ybw b p).2.1 (es++[(ybw b p).1])) else ([],0,(ybw b p).2.2)
def yes (es:List (List Int)) (us:List Int):List (List Int)×Int:=
 if (∀ u∈us,u<es.length)∧(∀ i<es.length,(i:Int)∈us) then (us.map fun u=>es.getD u.toNat [],0) else ([],5)
def decT (b:List Int) (es:List (List Int)) (p:Nat):List (List Int)×Int:=
 if (vget b p).2.2=0 then (if 4096<(vget b p).1 then ([],4) else if (ybq (b.drop (vget b p).2.1) (wid es.length) (vget b p).1).2=0 then yes es (ybq (b.drop (vget b p).2.1) (wid es.length) (vget b p).1).1 else ([],(ybq (b.drop (vget b p).2.1) (wid es.length) (vget b p).1).2)) else ([],(vget b p).2.2)
def decS (b:List Int):List (List Int)×Int:=
 if (vget b 0).2.2=0 then (if 4096<(vget b 0).1 then ([],4) else if (entS b (vget b 0).1 (vget b 0).2.1 []).2.2=0 then decT b (entS b (vget b 0).1 (vget b 0).2.1 []).1 (entS b (vget b 0).1 (vget b 0).2.1 []).2.1 else ([],(entS b (vget b 0).1 (vget b 0).2.1 []).2.2)) else ([],(vget b 0).2.2)
theorem ycp {b:List Int} (hb:Bys b) {p:Nat} (h:(vget b p).2.2=0):(vget b p).2.1≤b.length∧p<(vget b p).2.1:=by
 have:=yef (l:=b) (p:=p) (v:=(vget b p).1) (q:=(vget b p).2.1) hb (by rw[← h])
 exact⟨this.2.1,this.1⟩
theorem ylg {b:List Int} (hb:Bys b) {p:Nat} (h:(ybw b p).2.2=0):(ybw b p).2.1≤b.length∧(ybw b p).1.length≤200∧Bys (ybw b p).1∧p<(ybw b p).2.1:=by
 unfold ybw at h ⊢
 by_cases h1:(vget b p).2.2=0
 ·rw[if_pos h1] at h ⊢
  have:=ycp hb h1
  by_cases h2:200<(vget b p).1
  ·rw[if_pos h2] at h;simp at h
  ·rw[if_neg h2] at h ⊢
   by_cases h3:b.length-(vget b p).2.1<(vget b p).1
   ·rw[if_pos h3] at h;simp at h
   ·rw[if_neg h3]
    exact⟨by simp only;omega,by simp only[List.length_take,List.length_drop];omega,(hb.drop _).take _,by simp only;omega⟩
 ·rw[if_neg h1] at h;exact absurd h h1
theorem yqw (l:List Int) (hl:l.length≤140737488355328):Ev (fun k=>yay.f k l) l:=⟨l.length+1,fun k hk=>yo5 l hl k hk⟩
theorem yn6 (n i:Nat) (us:List Int) (hi:i<us.length) (h0:0≤us[i]):((List.range n).map fun j:Nat=>decide ((j:Int)∈us.take i)).set us[i].toNat true=(List.range n).map fun j:Nat=>decide ((j:Int)∈us.take (i+1)):=by
 apply List.ext_getElem
 ·simp
 ·intro j h1 h2
  rw[List.getElem_set]
  simp only[List.getElem_map,List.getElem_range]
  rw[← ybd us i hi]
  by_cases h:us[i].toNat=j
  ·rw[if_pos h]
   have:(j:Int)∈us.take i++[us[i]]:=List.mem_append_right _ (by simp;omega)
   exact(decide_eq_true this).symm
  ·rw[if_neg h]
   have:(j:Int)≠us[i]:=by omega
   exact decide_eq_decide.2 ⟨fun h=>List.mem_append_left _ h,fun h=>(List.mem_append.1 h).elim id (fun h=>absurd (List.mem_singleton.1 h) this)⟩
theorem yk0 {b:List Int} {w m:Nat}:∀ u∈(ybq b w m).1,0≤u:=by
 unfold ybq
 intro u hu
 split at hu
 ·simp at hu
 ·split at hu
  ·simp at hu
  ·split at hu
   ·simp at hu
   ·obtain⟨i,_,rfl⟩:=List.mem_map.1 hu
    omega
theorem yhv {b:List Int} {w m:Nat}:(ybq b w m).1.length≤m:=by
 unfold ybq
 split
 ·simp
 ·split
  ·simp
  ·split
   ·simp
   ·simp
theorem order_ev (a b:List Int) (hl:a.length<9223372036854775807):Ev (fun k=>yan.f k a b) (cmpL a b):=⟨2*a.length+2,fun k hk=>order_law a b hl k hk⟩
end Go.Proofs.YteeikgjjgfdjgaaGreat.PK
end
section
namespace Go.Proofs.YteeikgjjgfdjgaaGreat.PK
open Go.RowKit Go.Maps YteeikgjjgfdjgaaGreatW.PrintWords YteeikgjjgfdjgaaGreatW.PrintLast YteeikgjjgfdjgaaGreatW.PrintMore
set_option linter.unusedVariables false
set_option linter.unusedSimpArgs false
theorem Made.reads {w:World} {base g:Nat} {v:Value} {xs:List Int} (h:Made w base g v xs):∃ A c,v=.slice A xs.length c∧xs.length≤c∧Kd.C (Kd.int .u8) w A xs.length xs:=by
 obtain⟨cap,cells,m,rfl,hg,hc,hh,hs,hm,hx,hcell⟩:=h
 refine⟨_,cap,rfl,hc,Kd.C_of_reads (d:=0) ⟨rfl,by unfold maxLen at hx;omega,fun _=>⟨_,rfl,fun j hj=>?_⟩⟩⟩
 rw[ydl]
 simp only[World.cell?,hh]
 rw[hcell j hj,List.getD_eq_getElem?_getD,List.getElem?_eq_getElem hj]
 simp
theorem Ent.reads {w:World} {base:Nat} {v:Value} {es:List (List Int)} (hE:Ent w base v es):∃ A c,v=.slice A es.length c∧es.length≤c∧Kd.C (Kd.slice 5 (Kd.int .u8)) w A es.length es:=by
 obtain⟨vs,gs,h1,h2,h4,h6⟩:=hE
 obtain⟨A,c,rfl,hc,hcells⟩:=ygr h1
 have hn:es.length≤9223372036854775807:=by
  rcases h1.2 with ⟨_,h⟩|⟨g',cap',cur,he,_,_,h3,h5,_⟩
  ·omega
  ·simp only[maxLen] at h5
   omega
 refine⟨A,c,rfl,hc,rfl,hn,fun hp=>?_⟩
 obtain⟨g,_,_,rfl,hcl⟩:=hcells hp
 refine⟨_,rfl,fun j p hj=>?_⟩
 obtain⟨hjl,rfl⟩:=List.getElem?_eq_some_iff.1 hj
 obtain⟨u,hu,hM⟩:=h6 j hjl (by omega)
 obtain⟨A',c',rfl,hc',hC'⟩:=hM.reads
 refine⟨[.slice A' es[j].length c'],rfl,⟨A',c',rfl,hc',hC'⟩,fun i x hx=>?_⟩
 cases i with
 | zero =>
  simp at hx
  subst hx
  have:=hcl j hjl
  rw[hu] at this
  rw[ydl]
  simpa [Kd.slice] using this
 | succ i=>simp at hx
def usd (us:List Int) (k:Nat):List Int:=(List.range us.length).map fun j=>if j<k then us.getD j 0 else 0
theorem ymr (us:List Int) (k:Nat) (h:k<us.length):(usd us k).set k us[k]=usd us (k+1):=by
 have:=ymu us.length k (fun j=>us.getD j 0)
 rw[List.getD_eq_getElem?_getD,List.getElem?_eq_getElem h] at this
 exact this
theorem ylk (us:List Int):usd us 0=List.replicate us.length 0:=by
 apply List.ext_getElem
 ·simp [usd]
 ·intro j h1 h2
  simp [usd]
theorem ymj (us:List Int):usd us us.length=us:=by
 apply List.ext_getElem
 ·simp [usd]
 ·intro j h1 h2
  simp only[usd,List.getElem_map,List.getElem_range,if_pos h2]
  rw[List.getD_eq_getElem?_getD,List.getElem?_eq_getElem h2]
  rfl
theorem ypl (A:Option Addr) (c:Nat) (ss:List (List Int)) (w:World) (hr:Kd.C (Kd.slice 5 (Kd.int .u8)) w A ss.length ss) (hc:ss.length≤c) (hb:∀ s∈ss,Bys s) :
  Calls Tryz.prog 87 #[.slice A ss.length c] w fun e w'=>∃ v,e=.returned (.tuple #[v,.int .i64 (encS ss).2])∧Below w.heap.size w w'∧Kd.R (Kd.int .u8) 5 w' w.heap.size (fun _=>True) v (encS ss).1:=by
 by_cases h0:(idx ss).2.2=0
 ·obtain⟨h1,h2,h3,h4⟩:=ymg h0
  have h5:=yg5 ss
  have hfit:=yng h1
  have hes:∀ s∈ents ss,s.length≤200:=fun s hs=>h2 s (yd0.1 hs)
  have henc:encS ss=(encB (ents ss) (ss.map (fun s=>((pos (ents ss) s:Nat):Int))),0):=by
   unfold encS
   rw[if_pos h0,h3,h4]
  have hul:(ss.map (fun s=>((pos (ents ss) s:Nat):Int))).length≤4096:=by simpa using h1
  rw[henc]
  generalize hus:ss.map (fun s=>((pos (ents ss) s:Nat):Int))=us at *
  generalize hes':ents ss=es at *
  have hel:es.length≤4096:=by omega
  obtain⟨n,hn⟩:∃ n,n=es.length:=⟨_,rfl⟩
  go_enter Tryz.func87,Tryz.ntmps87
  go_wp2_with (first
   | (go_at_call 127;refine(yl7 A c ss _ hr hc hb).mono ?_;rw[h0,h3,h4];rintro e w1 ⟨v1,v2,rfl,hb1,hE,hR⟩;obtain⟨A1,c1,rfl,hc1,hC1⟩:=hE.reads;obtain⟨A2,c2,rfl,hc2,hC2⟩:=Kd.R_reads hR;rw[← hn] at hc1 hC1)
   | (go_at_call 52;refine(ya0.calls 10 ((es.length:Nat):Int) (vput es.length) _ (yg2 es.length (by omega))).mono ?_;rintro e w2 ⟨v3,rfl,hR3,hb3⟩))
  have hC1w:=hC1
  have hC2w:=hC2
  have hb2:Below w.heap.size w w2:=yae hb1 hb1.size hb3
  go_loopw [7,29] (fun vo vi wq=>∃ i:Nat,i≤es.length∧vi=.int .i64 i∧Kd.R (Kd.int .u8) 5 wq w1.heap.size (fun _=>True) vo (vput es.length++((es.take i).map one).flatten)∧Below w1.heap.size w1 wq) (fun _ vi _=>es.length-(intOf vi).toNat)
  case atStart=>exact⟨0,by omega,rfl,by simpa using hR3,hb3⟩
  case round =>
   obtain⟨i,hi,rfl,hRo,hbr⟩:=hrel
   by_cases hlt:i<es.length
   ·obtain⟨ad,A3,c3,rfl,hx0,hc3,hC0⟩:=yhl hC1 (i:Int) (by omega) (by omega)
    rw[ygi hlt,Int.toNat_natCast] at *
    have hx:=(hbr.cell (World.block_lt_of_cell? w1 _ hx0)).trans hx0
    obtain⟨s,hs⟩:∃ s,s=es[i]:=⟨_,rfl⟩
    rw[← hs] at hx hC0 hc3
    have hsl:=hes s (by rw[hs];exact List.getElem_mem hlt)
    have hl1:=yi9 (es.take i) (fun s hm=>hes s (List.mem_of_mem_take hm))
    rw[List.length_take] at hl1
    have hl2:=ybg es.length
    have hl3:=ybg s.length
    obtain⟨out,hout⟩:∃ out,out=vput es.length++((es.take i).map one).flatten:=⟨_,rfl⟩
    have hl4:out.length≤1000000:=by rw[hout,List.length_append];omega
    rw[← hout] at hRo
    obtain⟨A7,c7,rfl,hc7,_⟩:=Kd.R_reads hRo
    have HS:=Lib.hid hs;have HO:=Lib.hid hout;have HR0:=Lib.hid hRo;have HB:=Lib.hid hbr;have HC:=Lib.hid hC0;have HLT:=Lib.hid hlt
    clear hs hl1 hl2 hout hRo hC0 hr hb hx0 hE hR hR3 hC1w hC2w
    go_wp2_with (first
     | (go_at_call 52;refine(ya0.calls 10 ((s.length:Nat):Int) (vput s.length) _ (yg2 s.length (by omega))).mono ?_;rintro e w3 ⟨v4,rfl,hR4,hb4⟩;obtain⟨A4,c4,rfl,hc4,hC4⟩:=Kd.R_reads hR4;have hb5:=yae HB.out HB.out.size hb4;have hRo3:=Kd.R_below HR0.out hb4)
     | (at_builtin;refine Kd.R_append_row (w0:=w1) (Value.int .u8) 0 w1.heap.size rfl _ _ 25 5 (.int .u8 0) 1 rfl Tryz.underlying25 ycj rfl (by decide) _ out (vput s.length) A4 _ c4 (fun _=>True) rfl rfl (fun _ _=>trivial) hRo3 hC4 hb5 hb5.size (by omega) ?_;intro v5 w4 hR5 hb6 hg5 hat5)
     | (at_builtin;refine Kd.R_append_row (w0:=w1) (Value.int .u8) 0 w1.heap.size rfl _ _ 25 5 (.int .u8 0) 1 rfl Tryz.underlying25 ycj rfl (by decide) _ (out++vput s.length) s A3 _ c3 (fun _=>True) rfl rfl (fun _ _=>trivial) hR5 (Kd.C_below HC.out hb6) hb6 hb6.size (by rw[List.length_append];omega) ?_;intro v6 w5 hR6 hb7 hg6 hat6))
    have hs:=HS.out
    have hlt:=HLT.out
    refine⟨⟨i+1,by omega,by go_num,?_,hb7⟩,by simp [intOf];omega⟩
    rw[← ybd es i hlt,List.map_append,List.flatten_append,← hs,← List.append_assoc,← HO.out]
    simp only[List.map_cons,List.map_nil,List.flatten_cons,List.flatten_nil,List.append_nil,one]
    rw[← List.append_assoc]
    exact hR6
   ·obtain rfl:i=es.length:=by omega
    rw[List.take_length] at hRo
    have hmk:=yic (P:=Tryz.prog) 66 63 .u64 8 Tryz.underlying66 yim (by decide) us.length (by omega)
    have hRM:=yil wr w1.heap.size 63 .u64 us.length hbr.size (by omega)
    have hBM:Below w1.heap.size w1 (wr.alloc (.cells (madeCells #[.int .u64 0] us.length) 63)):=hbr.alloc hbr.size _
    have hRo2:=Kd.own_of_R (Kd.R_alloc hRo (.cells (madeCells #[.int .u64 0] us.length) 63))
    rw[← ylk] at hRM
    have hl1:=yi9 es hes
    have hl2:=ybg es.length
    have hl3:=ybg us.length
    have hl5:=ygo (wid es.length) us (by have:=yjc es.length hel;omega) hul
    obtain⟨out,hout⟩:∃ out,out=vput es.length++(es.map one).flatten:=⟨_,rfl⟩
    have hl4:out.length≤1000000:=by rw[hout,List.length_append];omega
    rw[← hout] at hRo hRo2
    go_upto_region 11 with (fail)
    generalize (wr.alloc (.cells (madeCells #[.int .u64 0] us.length) 63))=wy at *
    generalize wr.heap.size=g3 at *
    clear hRo hbr hmk hC1 hE
    have HO:=Lib.hid hout
    clear hout hr
    go_wp2
    go_loopw [47] (fun vi wq=>∃ k:Nat,k≤us.length∧vi=.int .i64 k∧wq.ownsRow w1.heap.size 63 1 (.slice (some ⟨g3,0,none⟩) us.length us.length) us.length (nums .u64 (usd us k))∧wq.ownsRow w1.heap.size 5 1 u7 out.length (nums .u8 out)∧Below w1.heap.size w1 wq) (fun vi _=>us.length-(intOf vi).toNat)
    case atStart=>exact⟨0,by omega,rfl,hRM,hRo2,hBM⟩
    case round =>
     obtain⟨k,hk,rfl,hR9,hO9,hbr⟩:=hrel
     by_cases hlt:k<us.length
     ·obtain⟨ad,rfl,hx0⟩:=Kd.at_int hC2 (k:Int) (by omega) (by omega)
      rw[ybj hlt,Int.toNat_natCast] at hx0
      have hx:=(hbr.cell (World.block_lt_of_cell? w1 _ hx0)).trans hx0
      have hu:=hfit us[k] (List.getElem_mem hlt)
      have hw:=yjc es.length hel
      have hp12:(2:Int)^wid es.length≤4096:=by
       have:2^wid es.length≤2^12:=Nat.pow_le_pow_right (n:=2) (by decide) hw
       exact_mod_cast this
      obtain⟨u,hus⟩:∃ u,u=us[k]:=⟨_,rfl⟩
      rw[← hus] at hx hu
      have hu0:=hu.1
      have hu1:u<4096:=by omega
      obtain⟨hcc,hfr⟩:=ymh hR9 (k:Int) (by omega) (by omega)
      rw[Int.toNat_natCast] at hcc hfr
      have HU:=Lib.hid hus;have HR:=Lib.hid hR9;have HO9:=Lib.hid hO9
      clear hus hR9 hO9 hC2 hx0 hp12 hu
      go_wp2
      go_roundw
      case rel =>
       have hst:=yix HR.out (k:Int) u
       rw[Int.toNat_natCast] at hst
       obtain⟨hst1,hst2⟩:=hst
       rw[HU.out,ymr us k hlt,← HU.out] at hst1
       refine⟨k+1,by omega,by go_num,hst1,yip HO9.out hst2 (yhx HO9.out HR.out (by decide)),hbr.grown hst2 hbr.size (fun k' hk'=>?_)⟩
       injection hk' with hk'
       have:=ydp HR.out g3 rfl
       omega
      case measure=>simp [intOf];omega
     ·obtain rfl:k=us.length:=by omega
      rw[ymj] at hR9
      have hw:=yjc es.length hel
      obtain⟨kw,hkw⟩:=(yl2 es.length (by omega)).ex
      obtain⟨kp,hkp⟩:=(ppack (w:=wid es.length) (by omega) hfit hul).ex
      have hRU:Kd.R (Kd.int .u64) 63 wr w1.heap.size (fun _=>True) (.slice (some ⟨g3,0,none⟩) us.length us.length) us:=Kd.R_of_own hR9 (fun _ _=>trivial)
      have hRo:Kd.R (Kd.int .u8) 5 wr w1.heap.size (fun _=>True) u7 out:=Kd.R_of_own hO9 (fun _ _=>trivial)
      obtain⟨_,_,hCU⟩:=Kd.R_reads' hRU
      clear hR9 hO9 hRU hC2 hfit
      go_wp2_with (first
       | (go_at_call 110;refine(ygz.calls kw ((es.length:Nat):Int) ((wid es.length:Nat):Int) _ hkw).mono ?_;rintro e w3 ⟨rfl,hb3'⟩;have hb4:=yae hbr hbr.size hb3';have hCU3:=Kd.C_below hCU hb3';have hRo3:=Kd.R_below hRo hb3')
       | (go_at_call 83;refine(ya9.calls kp ((wid es.length:Nat):Int) (some ⟨g3,0,none⟩) us.length us (yed (wid es.length) us) 0 _ hCU3 (Nat.le_refl _) hkp).mono ?_;rintro e w4 ⟨v13,rfl,hR13,hb5⟩;have hR13n:=Kd.R_newR hR13 hRo3;obtain⟨A13,c13,rfl,hc13,hC13⟩:=Kd.R_reads hR13;have hb6:=yae hb4 hb4.size hb5;have hRo4:=Kd.R_below hRo3 hb5)
       | (go_at_call 52;refine(ya0.calls 10 ((us.length:Nat):Int) (vput us.length) _ (yg2 us.length (by omega))).mono ?_;rintro e w5 ⟨v14,rfl,hR14,hb7⟩;obtain⟨A14,c14,rfl,hc14,hC14⟩:=Kd.R_reads hR14;have hb8:=yae hb6 hb6.size hb7;have hRo5:=Kd.R_below hRo4 hb7;have hR13m:=Kd.R_below hR13n hb7)
       | (at_builtin;refine Kd.R_append_row (w0:=w1) (Value.int .u8) 0 w1.heap.size rfl _ _ 25 5 (.int .u8 0) 1 rfl Tryz.underlying25 ycj rfl (by decide) _ out (vput us.length) A14 _ c14 (fun _=>True) rfl rfl (fun _ _=>trivial) hRo5 hC14 hb8 hb8.size (by omega) ?_;intro v15 w6 hR15 hb9 hg15 hat15;have hR13o:=Kd.R_grown hR13m hg15 (fun k hk=>hk.2);obtain⟨_,_,hC13o⟩:=Kd.R_reads' hR13o)
       | (at_builtin;refine Kd.R_append_row (w0:=w1) (Value.int .u8) 0 w1.heap.size rfl _ _ 25 5 (.int .u8 0) 1 rfl Tryz.underlying25 ycj rfl (by decide) _ (out++vput us.length) (yed (wid es.length) us) A13 _ c13 (fun _=>True) rfl rfl (fun _ _=>trivial) hR15 hC13o hb9 hb9.size (by rw[List.length_append];omega) ?_;intro v16 w7 hR16 hb10 hg16 hat16))
      go_ret2
      rw[HO.out] at hR16
      exact⟨_,rfl,yae hb1 hb1.size hb10,Kd.R_lower hR16 hb1.size⟩
 ·have h1:=idx_no h0
  have henc:encS ss=([],4):=by
   unfold encS
   rw[if_neg h0,h1]
  rw[henc]
  go_enter Tryz.func87,Tryz.ntmps87
  go_wp2_with (first
   | (go_at_call 127;refine(yl7 A c ss _ hr hc hb).mono ?_;rw[h1];rintro e w1 ⟨v1,v2,rfl,hb1,hE,hR⟩;obtain⟨A1,c1,rfl,hc1,hC1⟩:=hE.reads;obtain⟨A2,c2,rfl,hc2,hC2⟩:=Kd.R_reads hR))
  go_ret2
  exact⟨_,rfl,hb1,Kd.R_nil _ _ _ _ _⟩
theorem yi4 {P:Program} {w:World} {A:Option Addr} {n c:Nat} {xs:List Int} (h:Kd.C (Kd.int .u8) w A n xs):(Extern.Bytes.bytesOf (.slice A n c)).run P w=.ok ⟨(keyL xs).toArray⟩ w:=by
 have hx:=h.1
 rcases A with _|ad
 ·have h0:n=0:=by
   rcases Nat.eq_zero_or_pos n with h0|h0
   ·exact h0
   ·obtain⟨ad,h,_⟩:=h.2.2 h0;cases h
  obtain rfl:xs=[]:=List.eq_nil_of_length_eq_zero (by omega)
  rfl
 ·have hl:=Lib.run_loadBytesX (P:=P) w xs ad .empty (fun j x hj=>by
   obtain⟨hjl,rfl⟩:=List.getElem?_eq_some_iff.1 hj
   obtain⟨ad',e,hc⟩:=Kd.at_int h (j:Int) (by omega) (by omega)
   injection e with e
   subst e
   rw[ybj hjl,Int.toNat_natCast] at hc
   exact hc)
  rw[hx] at hl
  have he:(⟨ByteArray.empty.data++(Lib.bytesOf xs).toArray⟩:ByteArray)=⟨(keyL xs).toArray⟩:=by
   apply ByteArray.ext
   show(#[]:Array UInt8)++(Lib.bytesOf xs).toArray=(keyL xs).toArray
   simp
   rfl
  rw[he] at hl
  exact hl
theorem ypz {P:Program} {w:World} {A B:Option Addr} {n c m d:Nat} {xs ys:List Int} (h:Kd.C (Kd.int .u8) w A n xs) (k:Kd.C (Kd.int .u8) w B m ys) :
  (Extern.BytealgCompare.compare #[.slice A n c,.slice B m d]).run P w=.ok (.int .i64 (Lib.compareBytes (keyL xs) (keyL ys))) w:=by
 change Sem.run P (do pure (goInt (Extern.BytealgCompare.cmp (← Extern.Bytes.bytesOf (.slice A n c)) (← Extern.Bytes.bytesOf (.slice B m d))))) w=_
 simp only[Sem.run_bind,yi4 h,yi4 k,Sem.run_pure,Result.andThen]
 rw[Lib.cmp_eq]
 rfl
theorem ypg {xs ys:List Int} (hx:Bys xs) (hy:Bys ys):Lib.compareBytes (keyL xs) (keyL ys)=cmpL xs ys:=by
 induction xs generalizing ys with
 | nil=>cases ys <;> rfl
 | cons x xs ih=>cases ys with
  | nil=>rfl
  | cons y ys =>
   obtain⟨h1,h2⟩:=hx.cons
   obtain⟨h3,h4⟩:=hy.cons
   have:=ih h2 h4
   simp only[keyL,List.map_cons,Lib.compareBytes,cmpL,of_lt h1 h3,of_lt h3 h1] at *
   rw[this]
theorem yh8 (A B:Option Addr) (n c m d:Nat) (xs ys:List Int) (w:World) (h:Kd.C (Kd.int .u8) w A n xs) (k:Kd.C (Kd.int .u8) w B m ys) (hx:Bys xs) (hy:Bys ys) :
  Calls Tryz.prog 137 #[.slice A n c,.slice B m d] w fun e w'=>e=.returned (.int .i64 (cmpL xs ys))∧w'=w:=by
 go_enter Tryz.func137,Tryz.ntmps137
 go_wp2
 rw[run_callFunc_extern Tryz.func146 (by kernel_rfl) (by kernel_rfl) (by kernel_rfl) (e:=Extern.BytealgCompare.compare) (by kernel_rfl),ypz h k,ypg hx hy]
 simp only[Result.andThen]
 rw[Oper.upon_value]
 go_wp2
 go_ret
 exact⟨rfl,rfl⟩
def yc3 (l:List Int) (p:Nat) (y:List Int) (first:Bool):List Int×Nat×Int:=
 if (ybw l p).2.2=0 then (if first=false∧cmpL (ybw l p).1 y≤0 then ([],0,5) else ybw l p) else ([],0,(ybw l p).2.2)
theorem yq9 (A B:Option Addr) (c d:Nat) (l y:List Int) (p:Nat) (first:Bool) (w:World) (hC:Kd.C (Kd.int .u8) w A l.length l) (hc:l.length≤c) (hY:Kd.C (Kd.int .u8) w B y.length y) (hl:Bys l) (hy:Bys y) (hlen:l.length≤140737488355328) (hp:p≤l.length) :
  Calls Tryz.prog 109 #[.slice A l.length c,.int .i64 p,.slice B y.length d,.bool first] w fun e w'=>yap w w'∧∃ A' c',e=.returned (.tuple #[.slice A' (yc3 l p y first).1.length c',.int .i64 (yc3 l p y first).2.1,.int .i64 (yc3 l p y first).2.2])∧(yc3 l p y first).1.length≤c'∧∀ w0,Kd.C (Kd.int .u8) w0 A l.length l→Kd.C (Kd.int .u8) w0 A' (yc3 l p y first).1.length (yc3 l p y first).1:=by
 obtain⟨kg,hkg⟩:=(get_ev l p hl (by omega) hp).ex
 obtain⟨v,hv⟩:∃ v,v=(vget l p).1:=⟨_,rfl⟩
 obtain⟨q,hq⟩:∃ q,q=(vget l p).2.1:=⟨_,rfl⟩
 obtain⟨e,he⟩:∃ e,e=(vget l p).2.2:=⟨_,rfl⟩
 rw[← hv,← hq,← he] at hkg
 by_cases h1:e=0
 ·have hle:=ycp hl (by rw[← he];exact h1)
  rw[← hq] at hle
  subst h1
  by_cases h2:200<v
  ·have ht:yc3 l p y first=([],0,4):=by
    have htx:ybw l p=([],0,4):=by
     unfold ybw
     rw[if_pos he.symm,if_pos (by omega)]
    unfold yc3
    rw[htx,if_neg (by simp)]
   rw[ht]
   go_enter Tryz.func109,Tryz.ntmps109
   go_wp2_with (first
    | (go_at_call 39;refine(yaw.calls kg A c l (p:Int) (v:Int) (q:Int) 0 w hC hc hkg).mono ?_;rintro e w1 ⟨rfl,hD⟩))
   go_ret3
   exact⟨hD,_,_,rfl,by simp,fun _ _=>Kd.C_nil _ _⟩
  ·by_cases h3:l.length-q<v
   ·have ht:yc3 l p y first=([],0,2):=by
     have htx:ybw l p=([],0,2):=by
      unfold ybw
      rw[if_pos he.symm,if_neg (by omega),if_pos (by omega)]
     unfold yc3
     rw[htx,if_neg (by simp)]
    rw[ht]
    go_enter Tryz.func109,Tryz.ntmps109
    go_wp2_with (first
     | (go_at_call 39;refine(yaw.calls kg A c l (p:Int) (v:Int) (q:Int) 0 w hC hc hkg).mono ?_;rintro e w1 ⟨rfl,hD⟩))
    go_ret3
    exact⟨hD,_,_,rfl,by simp,fun _ _=>Kd.C_nil _ _⟩
   ·have htx:ybw l p=((l.drop q).take v,q+v,0):=by
     unfold ybw
     rw[if_pos he.symm,if_neg (by omega),if_neg (by omega),← hq,← hv]
    obtain⟨i5,hi,hz0,hz1,hz2⟩:=info_parts ycj
    have hcut:=cut_mid (P:=Tryz.prog) 25 5 .i64 .i64 Tryz.underlying25 hi 1 hz1 A l.length c (q:Int) ((q:Int)+(v:Int)) (by omega) (by omega) (by omega) hc
    have hmid0:∀ w0,Kd.C (Kd.int .u8) w0 A l.length l→Kd.C (Kd.int .u8) w0 (if c=q then A else A.map (·.add (q*1))) ((l.take (q+v)).drop q).length ((l.take (q+v)).drop q):=fun w0 h0=>Kd.C_mid (lo:=q) (hi:=q+v) h0 (by omega) (by omega) hc
    rw[Int.toNat_natCast,show((q:Int)+(v:Int)).toNat-q=v from by omega] at hcut
    obtain⟨s,hs⟩:∃ s,s=(l.drop q).take v:=⟨_,rfl⟩
    have hsv:s.length=v:=by rw[hs,List.length_take,List.length_drop];omega
    rw[List.drop_take,Nat.add_sub_cancel_left,← hs] at hmid0
    have hmid:=hmid0 w hC
    rw[← hs] at htx
    have hsb:Bys s:=by rw[hs];exact(hl.drop _).take _
    generalize (if c=q then A else A.map (·.add (q*1)))=A' at *
    clear hs hv hq he hi hz0 hz1 hz2
    have hA':s.length≤c-q:=by omega
    subst hsv
    have hgo:∀ (f:Bool) (r:List Int×Nat×Int),(f=true→r=(s,q+s.length,0))→(f=false→r=if cmpL s y≤0 then ([],0,5) else (s,q+s.length,0)) →
      Calls Tryz.prog 109 #[.slice A l.length c,.int .i64 p,.slice B y.length d,.bool f] w fun e w'=>yap w w'∧∃ A' c',e=.returned (.tuple #[.slice A' r.1.length c',.int .i64 r.2.1,.int .i64 r.2.2])∧r.1.length≤c'∧∀ w0,Kd.C (Kd.int .u8) w0 A l.length l→Kd.C (Kd.int .u8) w0 A' r.1.length r.1:=by
     intro f r hr1 hr2
     cases f with
     | true =>
      rw[hr1 rfl]
      clear hr1 hr2 htx
      go_enter Tryz.func109,Tryz.ntmps109
      go_wp2_with (first
       | (go_at_call 39;refine(yaw.calls kg A c l (p:Int) ((s.length:Nat):Int) (q:Int) 0 w hC hc hkg).mono ?_;rintro e w1 ⟨rfl,hD⟩;have hm1:=Kd.C_below hmid hD.below))
      go_ret3
      rw[show((q+s.length:Nat):Int)=(q:Int)+(s.length:Int) from by omega]
      exact⟨hD,A',c-q,rfl,hA',hmid0⟩
     | false =>
      rw[hr2 rfl]
      clear hr1 hr2 htx
      by_cases h5:cmpL s y≤0
      ·rw[if_pos h5]
       go_enter Tryz.func109,Tryz.ntmps109
       go_wp2_with (first
        | (go_at_call 39;refine(yaw.calls kg A c l (p:Int) ((s.length:Nat):Int) (q:Int) 0 w hC hc hkg).mono ?_;rintro e w1 ⟨rfl,hD⟩;have hm1:=Kd.C_below hmid hD.below;have hY1:=Kd.C_below hY hD.below)
        | (go_at_call 137;refine(yh8 A' B s.length (c-q) y.length d s y _ hm1 hY1 hsb hy).mono ?_;rintro e w2 ⟨rfl,rfl⟩))
       go_ret3
       exact⟨hD,_,_,rfl,Nat.le_refl _,fun _ _=>Kd.C_nil _ _⟩
      ·rw[if_neg h5]
       go_enter Tryz.func109,Tryz.ntmps109
       go_wp2_with (first
        | (go_at_call 39;refine(yaw.calls kg A c l (p:Int) ((s.length:Nat):Int) (q:Int) 0 w hC hc hkg).mono ?_;rintro e w1 ⟨rfl,hD⟩;have hm1:=Kd.C_below hmid hD.below;have hY1:=Kd.C_below hY hD.below)
        | (go_at_call 137;refine(yh8 A' B s.length (c-q) y.length d s y _ hm1 hY1 hsb hy).mono ?_;rintro e w2 ⟨rfl,rfl⟩))
       go_ret3
       rw[show((q+s.length:Nat):Int)=(q:Int)+(s.length:Int) from by omega]
       exact⟨hD,A',c-q,rfl,hA',hmid0⟩
    refine hgo first (yc3 l p y first) (fun h=>?_) (fun h=>?_)
    ·unfold yc3
     rw[htx,if_pos rfl,if_neg (by simp [h])]
    ·unfold yc3
     rw[htx,if_pos rfl]
     simp [h]
 ·have ht:yc3 l p y first=([],0,e):=by
   have htx:ybw l p=([],0,e):=by
    unfold ybw
    rw[← he,if_neg h1]
   unfold yc3
   rw[htx,if_neg h1]
  rw[ht]
  clear ht hv hq he
  go_enter Tryz.func109,Tryz.ntmps109
  go_wp2_with (first
   | (go_at_call 39;refine(yaw.calls kg A c l (p:Int) (v:Int) (q:Int) e w hC hc hkg).mono ?_;rintro e w1 ⟨rfl,hD⟩))
  go_ret3
  exact⟨hD,_,_,rfl,by simp,fun _ _=>Kd.C_nil _ _⟩
end Go.Proofs.YteeikgjjgfdjgaaGreat.PK
end
