/-
  Parts of the proof: AKs, AKt, AKap, AKy, Bu, Cw, Cx, Xg, Xh, Xi, Xe, Yd, Ye.
-/
import Derived.Deep.Upon
import Derived.SizedLaws
import Derived.ChangeSame
import Derived.Deep.Slices
import Derived.Deep.Strs
import Derived.ProofKit
import Derived.OpenShut
import Derived.Carry
import Derived.ChangeOld
import Derived.Test.YteeikgjjgfdjgaaGreatU31
set_option maxHeartbeats 2000000
set_option maxRecDepth 100000
section
namespace Go.Proofs.YteeikgjjgfdjgaaGreat.PK
open Go.RowKit Go.Maps YteeikgjjgfdjgaaGreatW.PrintWords YteeikgjjgfdjgaaGreatW.PrintLast YteeikgjjgfdjgaaGreatW.PrintMore
set_option linter.unusedVariables false
set_option linter.unusedSimpArgs false
structure Hold (B:Nat) (w w':World):Prop where
 os:w'.os=w.os
 output:w'.output=w.output
 size:w.heap.size≤w'.heap.size
 block:∀ k,k<B→k<w.heap.size→w'.heap[k]?=w.heap[k]?
theorem Hold.of_below {B:Nat} {w w':World} (h:Below B w w'):Hold B w w':=⟨h.os,h.output,h.size,fun k hk _=>h.block k hk⟩
theorem Hold.trans {B:Nat} {a b c:World} (h:Hold B a b) (k:Hold B b c):Hold B a c:=
 ⟨k.os.trans h.os,k.output.trans h.output,Nat.le_trans h.size k.size,fun i hi hl=>(k.block i hi (by have:=h.size;omega)).trans (h.block i hi hl)⟩
theorem Hold.mono {B B':Nat} {w w':World} (h:Hold B w w') (hB:B'≤B):Hold B' w w':=⟨h.os,h.output,h.size,fun k hk hl=>h.block k (by omega) hl⟩
theorem Hold.below {w w':World} (h:Hold w.heap.size w w'):Below w.heap.size w { w' with tape:=w.tape }:=⟨h.os,rfl,h.output,h.size,fun k hk=>h.block k hk hk⟩
theorem Byt.cell {w:World} {base:Nat} {og:Option Nat} {v:Value} {xs:List Int} (h:Byt w base og v xs) {i:Nat} (hi:i<xs.length):∃ g cap,og=some g∧v=.slice (some ⟨g,0,none⟩) xs.length cap∧w.cell? ⟨g,i,none⟩=some (.int .u8 xs[i])∧w.frozen? ⟨g,i,none⟩=false:=by
 rcases h with ⟨_,_,rfl⟩|⟨g,cap,cells,m,h1,h2,h3,h4,hh,h6,h7,hx,hcell⟩
 ·simp at hi
 ·refine⟨g,cap,h1,h2,?_,?_⟩
  ·simp only[World.cell?,hh]
   rw[hcell i hi]
   simp
  ·simp only[World.frozen?,hh]
   rcases h7 with h7|h7
   ·simp;omega
   ·simp;omega
theorem Byt.store {w:World} {base g:Nat} {v:Value} {xs:List Int} (h:Byt w base (some g) v xs) {i:Nat} (hi:i<xs.length) (x:Int):Byt (w.setCell ⟨g,i,none⟩ (.int .u8 x)) base (some g) v (xs.set i x)∧w.grownBy (w.setCell ⟨g,i,none⟩ (.int .u8 x)) (some g):=by
 rcases h with ⟨h,_⟩|⟨g',cap,cells,m,h1,h2,h3,h4,hh,h6,h7,hx,hcell⟩
 ·cases h
 ·injection h1 with h1
  subst h1
  refine⟨.inr ⟨g,cap,cells.setIfInBounds i (.int .u8 x),m,rfl,by rw[List.length_set];exact h2,h3,by rw[List.length_set];exact h4,?_,by simpa using h6,h7,hx,fun j hj=>?_⟩,⟨rfl,rfl,rfl,by simp,fun k _ hk=>heap_setCell_other w ⟨g,i,none⟩ k _ (fun e=>hk (by simp [e]))⟩⟩
  ·simp only[World.setCell,Array.getElem?_modify,if_pos rfl,hh]
   rfl
  ·rw[List.length_set] at hj
   rw[Array.getElem?_setIfInBounds]
   by_cases hij:i=j
   ·subst hij
    rw[if_pos rfl,if_pos (by omega)]
    simp
   ·rw[if_neg hij,hcell j hj,List.getElem_set_ne hij]
structure Side (base B:Nat) (w w':World):Prop where
 os:w'.os=w.os
 output:w'.output=w.output
 size:w.heap.size≤w'.heap.size
 block:∀ k,k<w.heap.size→(k<base∨B≤k)→w'.heap[k]?=w.heap[k]?
theorem Side.refl (base B:Nat) (w:World):Side base B w w:=⟨rfl,rfl,Nat.le_refl _,fun _ _ _=>rfl⟩
theorem Side.trans {base B:Nat} {a b c:World} (h:Side base B a b) (k:Side base B b c):Side base B a c:=
 ⟨k.os.trans h.os,k.output.trans h.output,Nat.le_trans h.size k.size,fun i hi hl=>(k.block i (by have:=h.size;omega) hl).trans (h.block i hi hl)⟩
theorem Side.of_below {base B:Nat} {w w':World} (h:Below w.heap.size w w'):Side base B w w':=⟨h.os,h.output,h.size,fun k hk _=>h.block k hk⟩
theorem Side.drewN {base B:Nat} {w w':World} (h:Side base B w w') (n:Nat):Side base B w (w'.drewN n):=h.trans (Side.of_below (yab (Below.refl _ _) n))
theorem Side.hold {base B:Nat} {w w':World} (h:Side base B w w'):Hold base w w':=⟨h.os,h.output,h.size,fun k hk hl=>h.block k hl (.inl hk)⟩
structure EntX (w:World) (base B:Nat) (v:Value) (vs:List Value) (ogs:List (Option Nat)) (es:List (List Int)):Prop where
 row:w.ownsRow base 25 1 v es.length vs
 len:ogs.length=es.length
 apart:∀ (i j:Nat) (g:Nat),i<j→ogs[i]?=some (some g)→ogs[j]?≠some (some g)
 low:∀ (i:Nat) (g:Nat),ogs[i]?=some (some g)→g<B
 each:∀ i (h:i<es.length),∃ u og,vs[i]?=some u∧ogs[i]?=some og∧Byt w base og u es[i]
theorem EntX.of {w:World} {base:Nat} {v:Value} {es:List (List Int)} (h:EntB w base v es):∃ vs ogs,EntX w base w.heap.size v vs ogs es:=by
 obtain⟨vs,ogs,h1,h2,h3,h4⟩:=h
 refine⟨vs,ogs,h1,h2,h3,fun i g hg=>?_,h4⟩
 obtain⟨hi,_⟩:=List.getElem?_eq_some_iff.1 hg
 obtain⟨u,og,_,hog,hB⟩:=h4 i (by omega)
 rw[hg] at hog
 injection hog with hog
 exact hB.lt g hog.symm
theorem EntX.entB {w:World} {base B:Nat} {v:Value} {vs:List Value} {ogs:List (Option Nat)} {es:List (List Int)} (h:EntX w base B v vs ogs es):EntB w base v es:=⟨vs,ogs,h.row,h.len,h.apart,h.each⟩
theorem EntX.below {w w':World} {base B:Nat} {v:Value} {vs:List Value} {ogs:List (Option Nat)} {es:List (List Int)} (h:EntX w base B v vs ogs es) (hb:∀ k,k<w.heap.size→w'.heap[k]?=w.heap[k]?):EntX w' base B v vs ogs es:=by
 refine⟨yfc h.row (fun k hk=>hb k (ygc h.row k hk)),h.len,h.apart,h.low,fun i hi=>?_⟩
 obtain⟨u,og,hu,hog,hB⟩:=h.each i hi
 exact⟨u,og,hu,hog,hB.keep (fun g hg=>hb g (hB.lt g hg))⟩
theorem Byt.kept {w w':World} {base:Nat} {og:Option Nat} {v:Value} {xs:List Int} {may:MemPlace→Prop} (h:Byt w base og v xs) (hk:w.keptBut w' may) (hm:∀ g j,og=some g→j<xs.length→¬ may (.cell g j)):Byt w' base og v xs:=by
 rcases h with h|⟨g,cap,cells,m,h1,h2,h3,h4,hh,h6,h7,hx,hcell⟩
 ·exact .inl h
 ·have hlt:=lt_of_block hh
  have hb:=hk.2.2 g hlt
  rw[hh] at hb
  cases hw:w'.heap[g]? with
  | none=>rw[hw] at hb;simp at hb
  | some o =>
   rw[hw] at hb
   cases o with
   | cells c t fr =>
    simp only at hb
    obtain⟨rfl,rfl,hs,hc⟩:=hb
    refine .inr ⟨g,cap,c,_,h1,h2,h3,h4,hw,by omega,h7,hx,fun i hi=>?_⟩
    rw[hc i (hm g i h1 hi)]
    exact hcell i hi
   | _=>simp at hb
theorem Byt.side {w w':World} {base B:Nat} {og:Option Nat} {u:Value} {xs:List Int} (h:Byt w base og u xs) (hlow:∀ g,og=some g→g<B) (hos:w'.os=w.os) (hout:w'.output=w.output) (hsz:w.heap.size≤w'.heap.size) (hk:∀ k,k<w.heap.size→og≠some k→w'.heap[k]?=w.heap[k]?):Side base B w w':=
 ⟨hos,hout,hsz,fun k hk' hs=>hk k hk' (fun e=>by
  have h1:=hlow k e
  have h2:=h.base_le k e
  omega)⟩
theorem EntX.at {w:World} {base B:Nat} {ad:Addr} {n c:Nat} {vs:List Value} {ogs:List (Option Nat)} {es:List (List Int)} (h:EntX w base B (.slice (some ad) n c) vs ogs es) {i:Nat} (hi:i<es.length) :
  ∃ A' c' og,vs[i]?=some (.slice A' es[i].length c')∧ogs[i]?=some og∧Byt w base og (.slice A' es[i].length c') es[i]∧es[i].length≤c'∧Kd.C (Kd.int .u8) w A' es[i].length es[i]∧w.cell? (ad.add i)=some (.slice A' es[i].length c'):=by
 obtain⟨u,og,hu,hog,hB⟩:=h.each i hi
 obtain⟨A',c',rfl,hc',hC'⟩:=hB.reads
 refine⟨A',c',og,hu,hog,hB,hc',hC',?_⟩
 have h1:=h.row
 have hn:n=es.length:=by
  rcases h1.2 with ⟨h,_⟩|⟨g',cap',cur,h,_⟩
  ·cases h
  ·injection h
 subst hn
 rcases h1.2 with ⟨h',_⟩|⟨g,cap,cur,h',hg,hcur,_⟩
 ·cases h'
 ·injection h' with h' _ _
  injection h' with h'
  subst h'
  rw[yc7]
  exact(h1.cellAt (g:=g) i (by omega)).trans hu
end Go.Proofs.YteeikgjjgfdjgaaGreat.PK
end
section
namespace Go.Proofs.YteeikgjjgfdjgaaGreat.PK
open Go.RowKit YteeikgjjgfdjgaaGreatW.PrintWords YteeikgjjgfdjgaaGreatW.PrintLast YteeikgjjgfdjgaaGreatW.PrintMore
set_option linter.unusedVariables false
set_option linter.unusedSimpArgs false
theorem xor_low {x y m:Nat} (hx:x<256) (hy:y<256):(x ^^^ y)+256*m=(x+256*m) ^^^ y:=by
 have h1:x ^^^ y<2^8:=Nat.xor_lt_two_pow (n:=8) hx hy
 apply Nat.eq_of_testBit_eq
 intro i
 rw[Nat.add_comm,Nat.add_comm x,show 256=2^8 from rfl,Nat.testBit_xor,Nat.testBit_two_pow_mul_add _ h1,Nat.testBit_two_pow_mul_add _ hx]
 by_cases hi:i<8
 ·rw[if_pos hi,if_pos hi,Nat.testBit_xor]
 ·rw[if_neg hi,if_neg hi]
  have:y.testBit i=false:=Nat.testBit_lt_two_pow (Nat.lt_of_lt_of_le hy (show 2^8≤2^i from Nat.pow_le_pow_right (by decide) (by omega)))
  rw[this];simp
theorem xor_high {x m k:Nat} (hx:x<256):x+256*(m ^^^ 2^k)=(x+256*m) ^^^ 2^(k+8):=by
 apply Nat.eq_of_testBit_eq
 intro i
 rw[Nat.add_comm,Nat.add_comm x,show 256=2^8 from rfl,Nat.testBit_xor,Nat.testBit_two_pow_mul_add _ hx,Nat.testBit_two_pow_mul_add _ hx,Nat.testBit_two_pow]
 by_cases hi:i<8
 ·rw[if_pos hi,if_pos hi,decide_eq_false (by omega)];simp
 ·rw[if_neg hi,if_neg hi,Nat.testBit_xor,Nat.testBit_two_pow]
  congr 1
  exact decide_eq_decide.2 (by omega)
theorem le_turn:∀ (l:List Int) (i j:Nat),Bys l→(hi:i<l.length)→j<8→le (l.set i (((l[i].toNat ^^^ 2^j:Nat)):Int))=le l ^^^ 2^(8*i+j)
 | x::xs,0,j,hb,_,hj=>by
  have hx:=hb x (by simp)
  simp only[List.set_cons_zero,List.getElem_cons_zero,le,Int.toNat_natCast,Nat.mul_zero,Nat.zero_add]
  exact xor_low (by omega) (show 2^j<2^8 from Nat.pow_lt_pow_right (by decide) hj)
 | x::xs,i+1,j,hb,hi,hj=>by
  have hx:=hb x (by simp)
  have ih:=le_turn xs i j (fun y hy=>hb y (List.mem_cons_of_mem _ hy)) (by simpa using hi) hj
  simp only[List.set_cons_succ,List.getElem_cons_succ,le]
  rw[ih,xor_high (by omega)]
  congr 2
  omega
theorem xor_shift (a b k:Nat):(a ^^^ b)*2^k=(a*2^k) ^^^ (b*2^k):=by
 rw[← Nat.shiftLeft_eq,← Nat.shiftLeft_eq,← Nat.shiftLeft_eq]
 apply Nat.eq_of_testBit_eq
 intro i
 simp only[Nat.testBit_xor,Nat.testBit_shiftLeft]
 by_cases h:i≥k <;> simp [h]
theorem odd_run {p k:Nat} (h:p%2=1):p*2^k=2^k ^^^ (p / 2*2^(k+1)):=by
 have e:=yo8 p
 rw[h] at e
 have e2:p*2^k=(1 ^^^ (2*(p / 2)))*2^k:=by rw[← e]
 rw[e2,xor_shift,Nat.one_mul,Nat.pow_succ]
 congr 1
 rw[Nat.mul_comm 2,Nat.mul_assoc,Nat.mul_comm 2]
theorem even_run {p k:Nat} (h:p%2≠1):p*2^k=p / 2*2^(k+1):=by
 have e:p=p / 2*2:=by omega
 rw[Nat.pow_succ,Nat.mul_comm (2^k),← Nat.mul_assoc,← e]
theorem yo2 {p k m:Nat} (hk:k<m) (h:p / 2*2^(k+1)<2^m):p*2^k<2^m:=by
 obtain⟨d,rfl⟩:∃ d,m=d+(k+1):=⟨m-(k+1),by omega⟩
 rw[Nat.pow_add 2 d (k+1)] at h
 have h1:p / 2<2^d:=Nat.lt_of_mul_lt_mul_right h
 have h2:p<2^d*2:=by omega
 have h3:p*2^k<2^d*2*2^k:=Nat.mul_lt_mul_of_pos_right h2 (Nat.two_pow_pos k)
 rw[Nat.pow_add 2 d (k+1),Nat.pow_succ,Nat.mul_comm (2^k),← Nat.mul_assoc]
 exact h3
theorem turn_l1 {b out:List Int} {p k:Nat} {res:List Int} (hk:k / 8<out.length) (hl:out.length≤100000000) (hb:Bys out)
  (h:Ev (fun f=>yar.l0 f b (out.set (k / 8) (((out[k / 8].toNat ^^^ 2^(k%8):Nat)):Int)) ((p / 2:Nat):Int) ((k+1:Nat):Int)) res) (hp:p<18446744073709551616) :
  ∀ m j:Nat,j+m=k%8→Ev (fun f=>yar.l1 f b out (p:Int) (k:Int) ((2^j:Nat):Int) (j:Int)) res:=by
 have e8:Int.tmod (k:Int) 8=((k%8:Nat):Int):=by rw[Int.tmod_eq_emod_of_nonneg (by omega)];omega
 have ed:wrap64 (Int.tdiv (k:Int) 8)=((k / 8:Nat):Int):=by rw[Int.tdiv_eq_ediv_of_nonneg (by omega),w64 (by omega) (by omega)];omega
 have ek:wrap64 ((k:Int)+1)=((k+1:Nat):Int):=by rw[w64 (by omega) (by omega)];omega
 have ep:IntKind.u64.wrap (Int.tdiv (p:Int) 2)=((p / 2:Nat):Int):=by rw[Int.tdiv_eq_ediv_of_nonneg (by omega),IntKind.wrap_u64];omega
 intro m
 induction m with
 | zero =>
  intro j hj
  refine Ev.step (fun f=>?_) h
  have hx:=hb _ (List.getElem_mem hk)
  have hpw:2^(k%8)<2^8:=Nat.pow_lt_pow_right (by decide) (by omega)
  obtain rfl:j=k%8:=by omega
  rw[yar.l1,e8,if_neg (by omega),ed,if_pos (by omega),if_pos (by omega),yb3 hk,ek,ep,Int.toNat_natCast]
  have e:out[k / 8]=((out[k / 8].toNat:Nat):Int):=by omega
  rw[e,u8_xor_nat _ _ (by omega) hpw,Int.toNat_natCast]
 | succ m ih =>
  intro j hj
  have hj7:j<7:=by omega
  have hpw:2^(j+1)≤2^7:=Nat.pow_le_pow_right (by decide) (by omega)
  have e2:(((2^j:Nat):Int)*2)%256=((2^(j+1):Nat):Int):=by
   rw[Nat.pow_succ] at hpw ⊢
   omega
  refine Ev.step (fun f=>?_) (ih (j+1) (by omega))
  rw[yar.l1,e8,if_pos (by omega),e2,w64s j (by omega)]
theorem turn_l0 {b:List Int} (hb:Bys b) (hl:b.length≤1000000):∀ (n p k:Nat) (out:List Int),p<2^n→n≤32→out.length=b.length→Bys out→k≤8*b.length →
  ∃ t,Ev (fun f=>yar.l0 f b out (p:Int) (k:Int)) t∧t.length=b.length∧Bys t∧(t=b∨(le t=le out ^^^ (p*2^k)∧p*2^k<2^(8*b.length))):=by
 intro n
 induction n with
 | zero =>
  intro p k out hp _ ho hbo hk
  obtain rfl:p=0:=by simpa using hp
  exact⟨out,Ev.step (fun f=>by rw[yar.l0,if_neg (by decide)]) (Ev.now _),ho,hbo,.inr ⟨by simp,by rw[Nat.zero_mul];exact Nat.two_pow_pos _⟩⟩
 | succ n ih =>
  intro p k out hp hn ho hbo hk
  by_cases h0:p=0
  ·subst h0
   exact⟨out,Ev.step (fun f=>by rw[yar.l0,if_neg (by decide)]) (Ev.now _),ho,hbo,.inr ⟨by simp,by rw[Nat.zero_mul];exact Nat.two_pow_pos _⟩⟩
  have h32:2^(n+1)≤2^32:=Nat.pow_le_pow_right (by decide) hn
  have hp32:p<4294967296:=Nat.lt_of_lt_of_le hp (Nat.le_trans h32 (by decide))
  clear h32
  have hp2:p / 2<2^n:=by rw[Nat.pow_succ] at hp;exact Nat.div_lt_of_lt_mul (by rw[Nat.mul_comm];exact hp)
  clear hp
  have e8:wrap64 (8*(b.length:Int))=((8*b.length:Nat):Int):=by rw[w64 (by omega) (by omega)];omega
  by_cases hk2:8*b.length≤k
  ·refine⟨b,Ev.step (g:=fun f=>(yas.f f b).bind fun t=>some t) (fun f=>by rw[yar.l0,if_pos (by omega),e8,if_pos (by omega)]) (Ev.bind (copy_ev b (by omega)) (Ev.now _)),rfl,hb,.inl rfl⟩
  have hki:¬ ((k:Int)≥((8*b.length:Nat):Int)):=by omega
  have em:Int.tmod (p:Int) 2=((p%2:Nat):Int):=by rw[Int.tmod_eq_emod_of_nonneg (by omega)];omega
  have ep:IntKind.u64.wrap (Int.tdiv (p:Int) 2)=((p / 2:Nat):Int):=by rw[Int.tdiv_eq_ediv_of_nonneg (by omega),IntKind.wrap_u64];omega
  have ek:wrap64 ((k:Int)+1)=((k+1:Nat):Int):=by rw[w64 (by omega) (by omega)];omega
  by_cases hodd:p%2=1
  ·have hi:k / 8<out.length:=Nat.div_lt_of_lt_mul (by rw[ho];exact Nat.lt_of_not_le hk2)
   have hx:=hbo _ (List.getElem_mem hi)
   have hpw:2^(k%8)<2^8:=Nat.pow_lt_pow_right (by decide) (Nat.mod_lt _ (by decide))
   have hx8:out[k / 8].toNat<2^8:=(fun {x:Int} (h:0≤x∧x<256)=>(show x.toNat<256 by omega)) hx
   have hxl:out[k / 8].toNat ^^^ 2^(k%8)<2^8:=Nat.xor_lt_two_pow hx8 hpw
   have hk8:k%8<8:=Nat.mod_lt _ (by decide)
   have hk1:k+1≤8*b.length:=Nat.lt_of_not_le hk2
   obtain⟨t,ht,htl,htb,hte⟩:=ih (p / 2) (k+1) (out.set (k / 8) (((out[k / 8].toNat ^^^ 2^(k%8):Nat)):Int)) hp2 (Nat.le_of_succ_le hn) (by rw[List.length_set];exact ho) (by
    intro y hy
    rcases List.mem_or_eq_of_mem_set hy with h|h
    ·exact hbo y h
    ·subst h;exact(fun {x:Nat} (h:x<2^8)=>(show 0≤(x:Int)∧(x:Int)<256 from⟨by omega,by omega⟩)) hxl) hk1
   have hl1:=turn_l1 (p:=p) hi (by rw[ho];exact Nat.le_trans hl (by decide)) hbo ht (Nat.lt_trans hp32 (by decide)) (k%8) 0 (Nat.zero_add _)
   refine⟨t,Ev.step (fun f=>?_) hl1,htl,htb,?_⟩
   ·rw[yar.l0,if_pos (by omega),e8,if_neg hki,em,hodd,if_pos (by rfl)]
    rfl
   ·rcases hte with h|⟨h1,h2⟩
    ·exact .inl h
    ·refine .inr ⟨?_,yo2 hk1 h2⟩
     rw[h1,le_turn out (k / 8) (k%8) hbo hi hk8,Nat.div_add_mod k 8,odd_run hodd,Nat.xor_assoc]
  ·obtain⟨t,ht,htl,htb,hte⟩:=ih (p / 2) (k+1) out hp2 (Nat.le_of_succ_le hn) ho hbo (Nat.lt_of_not_le hk2)
   refine⟨t,Ev.step (fun f=>?_) ht,htl,htb,?_⟩
   ·rw[yar.l0,if_pos (by omega),e8,if_neg hki,em,if_neg (by omega),ep,ek]
   ·rcases hte with h|⟨h1,h2⟩
    ·exact .inl h
    ·exact .inr ⟨by rw[h1,even_run hodd],yo2 (Nat.lt_of_not_le hk2) h2⟩
theorem turn_law {b:List Int} (hb:Bys b) (hl:b.length≤1000000) (at_:Int) {p:Int} (hp:0≤p∧p<4294967296) :
  ∃ t,Ev (fun f=>yar.f f b at_ p) t∧t.length=b.length∧Bys t∧(t=b∨∃ a:Nat,le t=le b ^^^ (p.toNat*2^a)∧p.toNat*2^a<2^(8*b.length)):=by
 have e8:wrap64 (8*(b.length:Int))=((8*b.length:Nat):Int):=by rw[w64 (by omega) (by omega)];omega
 have hcp:=copy_ev b (by omega)
 have stay:∀ x:Bool,x=true→Ev (fun f=>yar.j0 f b at_ p b x) b:=fun x hx=>Ev.step (fun f=>by rw[yar.j0,if_pos hx]) (Ev.now _)
 by_cases h0:at_<0
 ·exact⟨b,Ev.same (g:=fun f=>(yas.f f b).bind fun t=>yar.j0 f b at_ p t true) (fun f=>by unfold yar.f;simp only[if_pos h0]) (Ev.bind hcp (stay true rfl)),rfl,hb,.inl rfl⟩
 by_cases h1:at_≥((8*b.length:Nat):Int)
 ·exact⟨b,Ev.same (g:=fun f=>(yas.f f b).bind fun t=>yar.j0 f b at_ p t (decide (at_≥((8*b.length:Nat):Int)))) (fun f=>by unfold yar.f;simp only[if_neg h0,e8]) (Ev.bind hcp (stay _ (decide_eq_true h1))),rfl,hb,.inl rfl⟩
 obtain⟨a,rfl⟩:∃ a:Nat,at_=(a:Int):=⟨at_.toNat,by omega⟩
 obtain⟨t,ht,htl,htb,hte⟩:=turn_l0 hb hl 32 p.toNat a b (by omega) (Nat.le_refl _) rfl hb (by omega)
 have ew:IntKind.u64.wrap p=((p.toNat:Nat):Int):=by rw[IntKind.wrap_u64];omega
 refine⟨t,Ev.same (g:=fun f=>(yas.f f b).bind fun t=>yar.j0 f b (a:Int) p t (decide ((a:Int)≥((8*b.length:Nat):Int)))) (fun f=>by unfold yar.f;simp only[if_neg h0,e8]) (Ev.bind hcp (Ev.step (fun f=>?_) ht)),htl,htb,hte.imp id fun h=>⟨a,h⟩⟩
 rw[yar.j0,if_neg (by simpa using h1),ew]
def yf7 (l:List Cel):Int:=if ∃ c∈l,c.f0=true then 1 else 0
theorem someN_yes {cs:List Cel} {i:Nat} (hi:i<cs.length) (h:cs[i].f0=true):yf7 (cs.take (i+1))=1:=by
 unfold yf7
 rw[if_pos ⟨cs[i],by rw[← ybc cs i hi];exact List.mem_append_right _ (List.mem_singleton.2 rfl),h⟩]
theorem someN_no {cs:List Cel} {i:Nat} (hi:i<cs.length) (h:¬ cs[i].f0=true):yf7 (cs.take (i+1))=yf7 (cs.take i):=by
 unfold yf7
 have:(∃ c∈cs.take (i+1),c.f0=true)↔(∃ c∈cs.take i,c.f0=true):=by
  rw[← ybc cs i hi]
  constructor
  ·rintro⟨c,hc,e⟩
   rcases List.mem_append.1 hc with hc|hc
   ·exact⟨c,hc,e⟩
   ·obtain rfl:=List.mem_singleton.1 hc
    exact absurd e h
  ·rintro⟨c,hc,e⟩
   exact⟨c,List.mem_append_left _ hc,e⟩
 by_cases hh:∃ c∈cs.take i,c.f0=true
 ·rw[if_pos hh,if_pos (this.2 hh)]
 ·rw[if_neg hh,if_neg (fun e=>hh (this.1 e))]
theorem yra {codec:Int} {cs:List Cel} (h:yf7 cs=1):yek codec cs=((codec::vput cs.length)++[yf7 cs])++ydg 1 (cs.map ych):=by
 have hh:∃ c∈cs,c.f0=true:=Classical.byContradiction fun hn=>by unfold yf7 at h;rw[if_neg hn] at h;exact absurd h (by decide)
 unfold yek ye7
 rw[if_pos hh,h]
 simp
theorem yqh {codec:Int} {cs:List Cel} (h:yf7 cs≠1):yek codec cs=(codec::vput cs.length)++[yf7 cs]∧yf7 cs=0:=by
 have hh:¬ ∃ c∈cs,c.f0=true:=fun hn=>by unfold yf7 at h;rw[if_pos hn] at h;exact absurd rfl h
 unfold yek ye7 yf7
 rw[if_neg hh,if_neg hh]
 simp
theorem lit_R (W:World) (e:TypeId) (k:IntKind) (xs:List Int) (base:Nat) (hb:base≤W.heap.size) (hl:xs.length≤1000):Kd.R (Kd.int k) e (W.alloc (.cells (xs.map (Value.int k)).toArray e)) base (fun _=>True) (.slice (some ⟨W.heap.size,0,none⟩) xs.length xs.length) xs:=
 Kd.R_of_own (own_lit W base e k xs hb (by omega)) (fun _ _=>trivial)
theorem yqx (kind codec:Int) (A:Option Addr) (c:Nat) (cs:List Cel) (w:World) (hf:Fine kind cs) (hfit:ycz kind codec) (h:Kd.C k53 w A cs.length cs) (hc:cs.length≤c) :
  Calls Tryz.prog 34 #[.int .i64 kind,.int .i64 codec,.slice A cs.length c] w (yfs w (yep kind codec cs).1 (yep kind codec cs).2):=by
 have hcl:=hf.len
 have hcd:=yju hfit
 have hw8:IntKind.u8.wrap codec=codec:=by rw[IntKind.wrap_u8];omega
 have hwl:IntKind.u64.wrap (cs.length:Int)=(cs.length:Int):=wraps_u64 _ (by omega) (by omega)
 obtain⟨kp,hkp⟩:=(ye8 cs.length (by omega)).ex
 have hvl:=ya5 cs.length
 have hbf:=ykn hf hfit
 have hhf:=ykp hf.len hfit
 have hpk:Ev (fun k=>yag.f k ((1:Nat):Int) (cs.map ych)) (ydg 1 (cs.map ych),0):=rpack (by decide) (yik cs) (by rw[List.length_map];exact hcl)
 obtain⟨kk,hkk⟩:=hpk.ex
 have hRB:=fun(w2:World) (hb:Below w.heap.size w w2)=>rbody_any kind codec A c cs w2 hf hfit (Kd.C_below h hb) hc
 have HC:=Lib.hid h;have HKP:=Lib.hid hkp;have HBF:=Lib.hid hbf;have HHF:=Lib.hid hhf;have HKK:=Lib.hid hkk;have HRB:=Lib.hid hRB;have HVL:=Lib.hid hvl
 clear h hf hfit hkp hbf hhf hpk hkk hRB hvl
 go_enter Tryz.func34,Tryz.ntmps34
 go_upto_region 2 with (fail)
 have R8:=Lib.hid (lit_R w 5 .u8 [codec] w.heap.size (Nat.le_refl _) (by simp))
 have B1:=Lib.hid (yak (Below.refl w.heap.size w) (.cells #[.int .u8 codec] 5))
 have hsz:w.heap.size<(w.alloc (.cells #[.int .u8 codec] 5)).heap.size:=by simp
 have HSZ:=Lib.hid hsz
 clear hsz
 have R8':RowKit.Hid (Kd.R (Kd.int .u8) 5 (w.alloc (.cells #[.int .u8 codec] 5)) w.heap.size (fun _=>True) (.slice (some ⟨w.heap.size,0,none⟩) 1 1) [codec]):=Lib.hid R8.out
 clear R8
 generalize w.alloc (.cells #[.int .u8 codec] 5)=w1 at *
 have hx8:([codec]:List Int).length+(vput cs.length).length≤140737488355328:=by have:=HVL.out;simp;omega
 have hV:[codec]++vput cs.length=codec::vput cs.length:=rfl
 generalize hvv:vput cs.length=vl at *
 have HVV:=Lib.hid hvv;have HX8:=Lib.hid hx8;have HV:=Lib.hid hV
 clear hvv hx8 hV
 go_upto_region 3 with (first
  | (go_at_call 58;refine(yae.calls kp _ _ _ HKP.out).mono ?_;rintro e w2 ⟨v2,rfl,hR2,hb2⟩;have MU:=Lib.hid hR2;have M8:=Lib.hid (Kd.R_below R8'.out hb2);have MB:=Lib.hid (yad B1.out B1.out.size hb2);clear hR2 hb2)
  | (go_at_call 57;refine(yhg M8.out MB.out (fun k hk=>(by have h1:=HSZ.out;have h2:w.heap.size=k:=(by simpa [Value.ownBlock] using hk);omega)) MU.out HX8.out).mono ?_;rintro e w3 ⟨v3,rfl,hR3,hb3,_⟩;have N8:=Lib.hid hR3;have NB:=Lib.hid hb3;clear hR3 hb3))
 have E9:=ylc (Kd.int .u64) w3 63 w.heap.size NB.out.size
 go_upto_region 5 with (fail)
 have N8':RowKit.Hid (Kd.R (Kd.int .u8) 5 (w3.alloc (.cells #[] 63)) w.heap.size (fun _=>True) v3 (codec::vl)):=Lib.hid (by rw[← HV.out];exact Kd.R_alloc N8.out _)
 have NB':=Lib.hid (yak NB.out (.cells #[] 63))
 have E9':=Lib.hid E9
 clear E9 N8 NB
 have hg9:RowKit.Hid (∃ v9,v9=Value.slice (some ⟨w3.heap.size,0,none⟩) 0 0):=Lib.hid ⟨_,rfl⟩
 generalize w3.alloc (.cells #[] 63)=w4 at *
 clear R8' B1 HSZ M8 MB MU hg9
 go_wp2
 go_loopw [9,10,11,12] (fun v9 v10 vi _ wq=>∃ i:Nat,i≤cs.length∧vi=.int .i64 i∧v10=.int .u8 (yf7 (cs.take i))∧RowKit.Hid (Kd.R (Kd.int .u64) 63 wq w.heap.size (fun _=>True) v9 ((cs.take i).map ych))∧RowKit.Hid (Kd.R (Kd.int .u8) 5 wq w.heap.size (fun _=>True) v3 (codec::vl))∧RowKit.Hid (Below w.heap.size w wq)) (fun _ _ vi _ _=>cs.length-(intOf vi).toNat)
 case atStart=>exact⟨0,Nat.zero_le _,rfl,rfl,Lib.hid (by rw[List.take_zero];exact E9'.out),N8',NB'⟩
 case round =>
  obtain⟨i,hi9,rfl,rfl,H9,H8,HB⟩:=hrel
  clear E9' N8' NB'
  by_cases hlt:i<cs.length
  ·obtain⟨ad,A2,c2,rfl,hx0,hx1,hx2,hl2,hC2⟩:=ye2 HC.out (i:Int) (by omega) (by omega)
   rw[ygj hlt,Int.toNat_natCast] at hx0
   replace hx0:=(HB.out.cell (World.block_lt_of_cell? w _ hx0)).trans hx0
   clear hx1 hx2 hl2 hC2
   have hml:((cs.take i).map ych).length≤4096:=by rw[List.length_map,List.length_take];omega
   have HML:=Lib.hid hml
   have hmk:(cs.take (i+1)).map ych=(cs.take i).map ych++[ych cs[i]]:=by rw[← ybc cs i hlt,List.map_append];rfl
   clear hml
   by_cases h0:cs[i].f0=true
   ·have hsm:=someN_yes hlt h0
    have hm1:ych cs[i]=1:=by unfold ych;rw[if_pos h0]
    rw[hm1] at hmk
    rw[h0] at hx0
    have HMK:=Lib.hid hmk;have HSM:=Lib.hid hsm;have HLT:=Lib.hid hlt
    clear hmk hsm hm1 h0 hlt
    generalize (cs.take i).map ych=us at *
    go_wp2_with (at_builtin;refine Kd.R_append (Kd.int .u64) (w0:=w) w.heap.size rfl (.tmp 36) (.tmp 38) 66 63 (.int .u64 0) 8 rfl Tryz.underlying66 yhb rfl (by decide) (by decide) _ us 1 [.int .u64 1] (fun _=>True) (fun _=>False) rfl rfl rfl (fun _ hk=>hk.elim) (fun _ _=>trivial) H9.out HB.out HB.out.size (by have:=HML.out;omega) ?_;intro v7 w7 hR7 hb7 hg7 hat7;have J9:=Lib.hid hR7;have J8:=Lib.hid (Kd.R_over' H8.out (Kd.R_typed H9.out) (by decide) hg7);have JB:=Lib.hid hb7;clear hR7 hb7 hg7 hat7)
    go_roundw
    case rel=>exact⟨i+1,HLT.out,by go_num,by rw[HSM.out],Lib.hid (by rw[HMK.out];exact J9.out),J8,JB⟩
    case measure=>have:=HLT.out;simp [intOf];omega
   ·have hsm:=someN_no hlt h0
    have hm1:ych cs[i]=0:=by unfold ych;rw[if_neg h0]
    rw[hm1] at hmk
    have h0f:cs[i].f0=false:=by simpa using h0
    rw[h0f] at hx0
    have HMK:=Lib.hid hmk;have HSM:=Lib.hid hsm;have HLT:=Lib.hid hlt
    clear hmk hsm hm1 h0 h0f hlt
    generalize (cs.take i).map ych=us at *
    go_wp2_with (at_builtin;refine Kd.R_append (Kd.int .u64) (w0:=w) w.heap.size rfl (.tmp 36) (.tmp 38) 66 63 (.int .u64 0) 8 rfl Tryz.underlying66 yhb rfl (by decide) (by decide) _ us 0 [.int .u64 0] (fun _=>True) (fun _=>False) rfl rfl rfl (fun _ hk=>hk.elim) (fun _ _=>trivial) H9.out HB.out HB.out.size (by have:=HML.out;omega) ?_;intro v7 w7 hR7 hb7 hg7 hat7;have J9:=Lib.hid hR7;have J8:=Lib.hid (Kd.R_over' H8.out (Kd.R_typed H9.out) (by decide) hg7);have JB:=Lib.hid hb7;clear hR7 hb7 hg7 hat7)
    go_roundw
    case rel=>exact⟨i+1,HLT.out,by go_num,by rw[HSM.out],Lib.hid (by rw[HMK.out];exact J9.out),J8,JB⟩
    case measure=>have:=HLT.out;simp [intOf];omega
  ·obtain rfl:i=cs.length:=by omega
   have hta:cs.take cs.length=cs:=List.take_length
   rw[hta] at H9 ⊢
   clear hta
   have hx9:(codec::vl).length≤1000000:=by have:=HX8.out;have h2:=HVL.out;rw[List.length_cons];omega
   have HX9:=Lib.hid hx9
   have hW:yep kind codec cs=if 65000<(yek codec cs).length+(ycj kind codec cs).1.length+4 then ([],4) else (yel (yek codec cs++(ycj kind codec cs).1),0):=by
    unfold yep
    rw[if_neg (fun e=>e HBF.out.2.2)]
   have hW2:∃ X Bd,X=yek codec cs∧Bd=(ycj kind codec cs).1:=⟨_,_,rfl,rfl⟩
   obtain⟨X,Bd,hX,hBd⟩:=hW2
   rw[← hX,← hBd] at hW
   rw[← hX] at HHF
   rw[← hBd] at HBF HRB
   have HW:=Lib.hid hW
   clear hx9 hW hBd
   by_cases hs1:yf7 cs=1
   ·have hXe:X=((codec::vl)++[(1:Int)])++ydg 1 (cs.map ych):=by rw[hX,yra hs1,hs1,HVV.out]
    rw[hs1]
    clear hX hs1
    have HXE:=Lib.hid hXe
    clear hXe
    generalize cs.map ych=us at *
    have hpl:((codec::vl)++[(1:Int)]).length+(ydg 1 us).length≤140737488355328:=by have h1:=HHF.out.2;rw[HXE.out,List.length_append] at h1;omega
    have HPL:=Lib.hid hpl
    clear hpl
    go_upto_region 14 with (at_builtin;refine Kd.R_append (Kd.int .u8) (w0:=w) w.heap.size rfl (.tmp 40) (.tmp 42) 25 5 (.int .u8 0) 1 rfl Tryz.underlying25 yb9 rfl (by decide) (by decide) _ (codec::vl) 1 [.int .u8 1] (fun _=>True) (fun _=>False) rfl rfl rfl (fun _ hk=>hk.elim) (fun _ _=>trivial) H8.out HB.out HB.out.size (by have:=HX9.out;omega) ?_;intro v7 w7 hR7 hb7 hg7 hat7;have J8:=Lib.hid hR7;have J9:=Lib.hid (Kd.R_over' H9.out (Kd.R_typed H8.out) (by decide) hg7);have JB:=Lib.hid hb7;clear hR7 hb7 hg7 hat7)
    obtain⟨A9,c9,rfl,hc9,hC9⟩:=Kd.R_reads J9.out
    have HC9:=Lib.hid hC9
    clear hC9
    go_upto_region 17 with (first
     | (go_at_call 59;refine(yag.calls kk 1 A9 c9 us _ 0 _ HC9.out hc9 HKK.out).mono ?_;rintro e w8 ⟨v8p,rfl,hR8,hb8⟩;have T8:=Lib.hid (Kd.R_below J8.out hb8);have TB:=Lib.hid (yad JB.out JB.out.size hb8);have TV:=Lib.hid (Kd.R_lt J8.out);have TU:=Lib.hid hR8;clear hR8 hb8)
     | (go_at_call 57;refine(yhg T8.out TB.out TV.out TU.out HPL.out).mono ?_;rintro e w11 ⟨v11,rfl,hR11,hb11,_⟩;have H8x:RowKit.Hid (Kd.R (Kd.int .u8) 5 w11 w.heap.size (fun _=>True) v11 X):=Lib.hid (by rw[HXE.out];exact hR11);have HBx:=Lib.hid hb11;clear hR11 hb11))
    clear T8 TB TV TU J8 J9 JB
    have hbl:X.length+Bd.length≤140737488355328:=by have h1:=HHF.out.2;have h2:=HBF.out.2.1;omega
    have HBL:=Lib.hid hbl
    clear hbl
    go_upto_region 18 with (first
     | (go_at_call 60;refine(HRB.out _ HBx.out).mono ?_;rintro e w9 ⟨v9b,rfl,hR9,hb9⟩;have T8:=Lib.hid (Kd.R_below H8x.out hb9);have TB:=Lib.hid (yad HBx.out HBx.out.size hb9);have TV:=Lib.hid (Kd.R_lt H8x.out);have TU:=Lib.hid hR9;clear hR9 hb9)
     | (go_at_call 57;refine(yhg T8.out TB.out TV.out TU.out HBL.out).mono ?_;rintro e w10 ⟨v10b,rfl,hR10,hb10,_⟩;have F8:=Lib.hid hR10;have FB:=Lib.hid hb10;clear hR10 hb10))
    have hyb:Bys (X++Bd):=HHF.out.1.append HBF.out.1
    have hyl:(X++Bd).length=X.length+Bd.length:=List.length_append
    have hXX:=HW.out
    clear T8 TB TV TU H8x HBx
    generalize X++Bd=Y at *
    obtain⟨A10,c10,rfl,hc10,hC10⟩:=Kd.R_reads F8.out
    have hyl2:Y.length≤2000000:=by have h1:=HHF.out.2;have h2:=HBF.out.2.1;omega
    have HYL:=Lib.hid hyl;have HC10:=Lib.hid hC10;have HYB:=Lib.hid hyb
    clear hyl hC10 hyb
    by_cases hg:65000<Y.length+4
    ·have hgi:(65000:Int)<(Y.length:Int)+4:=by omega
     rw[if_pos (by have:=HYL.out;omega)] at hXX
     have HXX:=Lib.hid hXX
     clear hXX hg
     go_wp2
     go_ret2
     rw[HXX.out]
     exact⟨_,rfl,Kd.R_nil _ _ _ _ _,FB.out⟩
    ·have hgi:decide ((65000:Int)<(Y.length:Int)+4)=false:=by simp;omega
     rw[if_neg (by have:=HYL.out;omega)] at hXX
     have HXX:=Lib.hid hXX
     obtain⟨kz,hkz⟩:=(yl3 HYB.out (by omega)).ex
     have HKZ:=Lib.hid hkz
     clear hXX hg hkz
     go_wp2_with (go_at_call 26;refine(yeq.calls kz A10 c10 Y _ _ HC10.out hc10 HKZ.out).mono ?_;rintro e w12 ⟨v12,rfl,hR12,hb12⟩)
     go_ret2
     rw[HXX.out]
     exact⟨_,rfl,Kd.R_lower hR12 FB.out.size,yad FB.out FB.out.size hb12⟩
   ·obtain⟨hh1,hh0⟩:=yqh (codec:=codec) hs1
    have hXe:X=(codec::vl)++[(0:Int)]:=by rw[hX,hh1,hh0,HVV.out]
    rw[hh0]
    clear hX hs1 hh1 hh0
    have HXE:=Lib.hid hXe
    clear hXe
    generalize cs.map ych=us at *
    go_upto_region 17 with (at_builtin;refine Kd.R_append (Kd.int .u8) (w0:=w) w.heap.size rfl (.tmp 40) (.tmp 42) 25 5 (.int .u8 0) 1 rfl Tryz.underlying25 yb9 rfl (by decide) (by decide) _ (codec::vl) 0 [.int .u8 0] (fun _=>True) (fun _=>False) rfl rfl rfl (fun _ hk=>hk.elim) (fun _ _=>trivial) H8.out HB.out HB.out.size (by have:=HX9.out;omega) ?_;intro v7 w7 hR7 hb7 hg7 hat7;have J8:=Lib.hid hR7;have J9:=Lib.hid (Kd.R_over' H9.out (Kd.R_typed H8.out) (by decide) hg7);have JB:=Lib.hid hb7;clear hR7 hb7 hg7 hat7)
    have H8x:RowKit.Hid (Kd.R (Kd.int .u8) 5 _ w.heap.size (fun _=>True) _ X):=Lib.hid (by rw[HXE.out];exact J8.out)
    have HBx:=JB
    have hbl:X.length+Bd.length≤140737488355328:=by have h1:=HHF.out.2;have h2:=HBF.out.2.1;omega
    have HBL:=Lib.hid hbl
    clear hbl
    go_upto_region 18 with (first
     | (go_at_call 60;refine(HRB.out _ HBx.out).mono ?_;rintro e w9 ⟨v9b,rfl,hR9,hb9⟩;have T8:=Lib.hid (Kd.R_below H8x.out hb9);have TB:=Lib.hid (yad HBx.out HBx.out.size hb9);have TV:=Lib.hid (Kd.R_lt H8x.out);have TU:=Lib.hid hR9;clear hR9 hb9)
     | (go_at_call 57;refine(yhg T8.out TB.out TV.out TU.out HBL.out).mono ?_;rintro e w10 ⟨v10b,rfl,hR10,hb10,_⟩;have F8:=Lib.hid hR10;have FB:=Lib.hid hb10;clear hR10 hb10))
    have hyb:Bys (X++Bd):=HHF.out.1.append HBF.out.1
    have hyl:(X++Bd).length=X.length+Bd.length:=List.length_append
    have hXX:=HW.out
    clear T8 TB TV TU H8x HBx
    generalize X++Bd=Y at *
    obtain⟨A10,c10,rfl,hc10,hC10⟩:=Kd.R_reads F8.out
    have hyl2:Y.length≤2000000:=by have h1:=HHF.out.2;have h2:=HBF.out.2.1;omega
    have HYL:=Lib.hid hyl;have HC10:=Lib.hid hC10;have HYB:=Lib.hid hyb
    clear hyl hC10 hyb
    by_cases hg:65000<Y.length+4
    ·have hgi:(65000:Int)<(Y.length:Int)+4:=by omega
     rw[if_pos (by have:=HYL.out;omega)] at hXX
     have HXX:=Lib.hid hXX
     clear hXX hg
     go_wp2
     go_ret2
     rw[HXX.out]
     exact⟨_,rfl,Kd.R_nil _ _ _ _ _,FB.out⟩
    ·have hgi:decide ((65000:Int)<(Y.length:Int)+4)=false:=by simp;omega
     rw[if_neg (by have:=HYL.out;omega)] at hXX
     have HXX:=Lib.hid hXX
     obtain⟨kz,hkz⟩:=(yl3 HYB.out (by omega)).ex
     have HKZ:=Lib.hid hkz
     clear hXX hg hkz
     go_wp2_with (go_at_call 26;refine(yeq.calls kz A10 c10 Y _ _ HC10.out hc10 HKZ.out).mono ?_;rintro e w12 ⟨v12,rfl,hR12,hb12⟩)
     go_ret2
     rw[HXX.out]
     exact⟨_,rfl,Kd.R_lower hR12 FB.out.size,yad FB.out FB.out.size hb12⟩
theorem renc_any (kind codec:Int) (A:Option Addr) (c:Nat) (cs:List Cel) (w:World) (hok:∀ c∈cs,yew c) (h:Kd.C k53 w A cs.length cs) (hc:cs.length≤c) (hl:cs.length≤140737488355328) :
  Calls Tryz.prog 12 #[.int .i64 kind,.int .i64 codec,.slice A cs.length c] w (yfs w (ydb kind codec cs).1 (ydb kind codec cs).2):=by
 unfold ydb
 by_cases h1:kind<1∨8<kind
 ·rw[if_pos h1]
  clear h hok
  rcases h1 with h1|h1
  ·go_enter Tryz.func12,Tryz.ntmps12
   go_wp2
   go_ret2
   exact⟨_,rfl,Kd.R_nil _ _ _ _ _,Below.refl _ _⟩
  ·have h2:decide (kind<1)=false:=by simp;omega
   go_enter Tryz.func12,Tryz.ntmps12
   go_wp2
   go_ret2
   exact⟨_,rfl,Kd.R_nil _ _ _ _ _,Below.refl _ _⟩
 rw[if_neg h1]
 have d1:decide (kind<1)=false:=by simp;omega
 have d8:decide (8<kind)=false:=by simp;omega
 have hfit:=rfits_law (kind:=kind) ⟨by omega,by omega⟩ codec
 by_cases h2:ycz kind codec
 ·rw[if_neg (by simpa using h2)]
  rw[decide_eq_true h2] at hfit
  obtain⟨kc,hkc⟩:=(yrn (kind:=kind) hl (fun c hc=>(hok c hc).2.2)).ex
  have HF:=Lib.hid hfit;have HC:=Lib.hid h
  by_cases h3:ycx kind cs=0
  ·have hf:=yk6 h1 h3 hok
   have hw:=fun(w2:World) (hb:Below w.heap.size w w2)=>yqx kind codec A c cs w2 hf h2 (Kd.C_below h hb) hc
   rw[if_neg (by simpa using h3)]
   rw[h3] at hkc
   have HW:=Lib.hid hw;have HKC:=Lib.hid hkc
   clear hfit hw hf h3 h2 h1 h hok hkc
   generalize yep kind codec cs=r at *
   go_enter Tryz.func12,Tryz.ntmps12
   go_wp2_with (first
    | (go_at_call 32;refine(yer.calls kind codec true _ HF.out).mono ?_;rintro e w2 ⟨rfl,⟨m2,rfl⟩⟩)
    | (go_at_call 33;refine(ybz.calls kc kind A c cs 0 _ (Kd.C_drewN HC.out _) hc HKC.out).mono ?_;rintro e w3 ⟨rfl,hb3⟩;have hb3':Below w.heap.size w w3:=(fun(hx:Below w.heap.size w _)=>yad hx hx.size hb3) (by repeat (first|exact Below.refl _ _|apply yab)))
    | (go_at_call 34;refine(HW.out _ hb3').mono ?_;rintro e w4 ⟨v4,rfl,hR4,hb4⟩))
   go_ret2
   exact⟨_,rfl,Kd.R_lower hR4 hb3'.size,yad hb3' hb3'.size hb4⟩
  ·rw[if_pos h3]
   have HKC:=Lib.hid hkc
   generalize ycx kind cs=r at *
   have d3:decide (r=0)=false:=by simpa using h3
   have d4:(r == 0)=false:=by simpa using h3
   clear hfit h2 h1 h hok hkc
   go_enter Tryz.func12,Tryz.ntmps12
   go_wp2_with (first
    | (go_at_call 32;refine(yer.calls kind codec true _ HF.out).mono ?_;rintro e w2 ⟨rfl,⟨m2,rfl⟩⟩)
    | (go_at_call 33;refine(ybz.calls kc kind A c cs r _ (Kd.C_drewN HC.out _) hc HKC.out).mono ?_;rintro e w3 ⟨rfl,hb3⟩;have hb3':Below w.heap.size w w3:=(fun(hx:Below w.heap.size w _)=>yad hx hx.size hb3) (by repeat (first|exact Below.refl _ _|apply yab))))
   go_ret2
   exact⟨_,rfl,Kd.R_nil _ _ _ _ _,hb3'⟩
 ·rw[if_pos (by simpa using h2)]
  rw[decide_eq_false h2] at hfit
  have HF:=Lib.hid hfit
  clear hfit h2 h1 h hok
  go_enter Tryz.func12,Tryz.ntmps12
  go_wp2_with (go_at_call 32;refine(yer.calls kind codec false _ HF.out).mono ?_;rintro e w2 ⟨rfl,⟨m2,rfl⟩⟩)
  go_ret2
  exact⟨_,rfl,Kd.R_nil _ _ _ _ _,by repeat (first|exact Below.refl _ _|apply yab)⟩
end Go.Proofs.YteeikgjjgfdjgaaGreat.PK
end
section
namespace Go.Proofs.YteeikgjjgfdjgaaGreat.PK
open Go.ChangeShapes Go.WideShapes Go.ChangeAt Go.RowKit Go.Deep YteeikgjjgfdjgaaGreatW.PrintWords
set_option linter.unusedVariables false
set_option linter.unusedSimpArgs false
theorem ynu:reachBytes=140737488351232:=by decide
theorem list_of {α:Type} {Q:Nat→α→Prop}:∀ n,(∀ i,i<n→∃ y,Q i y)→∃ l:List α,l.length=n∧∀ i y,l[i]?=some y→Q i y
 | 0,_=>⟨[],rfl,fun i y h=>(by simp at h)⟩
 | n+1,h=>by
  obtain⟨l,h1,h2⟩:=list_of n (fun i hi=>h i (by omega))
  obtain⟨y,hy⟩:=h n (by omega)
  refine⟨l++[y],by simp [h1],fun i z hz=>?_⟩
  by_cases hi:i<n
  ·rw[List.getElem?_append_left (by omega)] at hz
   exact h2 i z hz
  ·have:i=n:=by
    have:=(List.getElem?_eq_some_iff.1 hz).1
    simp [h1] at this
    omega
   subst this
   rw[List.getElem?_append_right (by omega),h1,Nat.sub_self] at hz
   simp at hz
   exact hz▸hy
section
variable {P:Program} {W:World}
def yga (P:Program) (W:World) {α:Type} (t:TypeId) (k:Kd α) (G:α→Prop):Prop:=
 ∀ (H:Type) (enc:TypeId×Value→H) (fuel:Nat) (cs:List Value) (x:DataW H×List MemPlace),DataW.trod enc P W 0 (fun _=>true) true fuel t cs=some x→(x.1.weights P t).all (·≤reachBytes)=true→∃ a,k.K W a cs∧G a
theorem yga.imp {α:Type} {t:TypeId} {k:Kd α} {G G':α→Prop} (h:yga P W t k G) (hi:∀ a,G a→G' a):yga P W t k G':=fun H enc fuel cs x hx hw=>by
 obtain⟨a,h1,h2⟩:=h H enc fuel cs x hx hw
 exact⟨a,h1,hi a h2⟩
theorem opens_int {t:TypeId} {q:IntKind} (ht:P.underlying t=some (.int q)):yga P W t (Kd.int q) (fun n=>(Lit.int q n).wf=true):=by
 intro H enc fuel cs x hx hw
 cases fuel with
 | zero=>simp [DataW.trod] at hx
 | succ fuel =>
  unfold DataW.trod at hx
  rw[ht] at hx
  split at hx <;> simp_all
  rename_i k' n h1
  obtain⟨⟨rfl,h2⟩,_⟩:=hx
  exact⟨n,rfl,h2⟩
theorem yi8 {H:Type} {e:TypeId}:∀ {l:List (DataW H)} {d:DataW H},d∈l→∀ n∈d.weights P e,n∈DataW.weightsAll P e l
 | [],d,hd,n,hn=>by cases hd
 | d0::l,d,hd,n,hn=>by
  rw[DataW.weightsAll,List.mem_append]
  rcases List.mem_cons.1 hd with rfl|hd
  ·exact .inl hn
  ·exact .inr (yi8 hd n hn)
theorem ylh {α:Type} {t e:TypeId} {k:Kd α} {G:α→Prop} {B:Nat} (ht:P.underlying t=some (.slice e)) (hk:yga P W e k G) (hc:P.cellsOf e=k.sz) (hB:P.bytesOf e=B):yga P W t (Kd.slice e k) (fun l=>(∀ a∈l,G a)∧l.length*B≤140737488351232):=by
 intro H enc fuel cs x hx hw
 rcases open_slice ht hx with ⟨rfl,rfl⟩|⟨a,len,cap,m,n,D,Pl,rfl,_,hl,hm,hmm,rfl,hel⟩
 ·exact⟨[],⟨none,0,rfl,Nat.le_refl _,Kd.C_nil _ _⟩,⟨fun a ha=>(by cases ha),by simp⟩⟩
 ·simp only[if_true] at hmm
  subst hmm
  simp only[DataW.weights,ht,List.length_map,List.length_range,List.all_cons,Bool.and_eq_true,decide_eq_true_eq,List.all_append] at hw
  obtain⟨hw1,hw2,_⟩:=hw
  rw[hB] at hw1
  have hel':∀ i,i<len→∃ y c,c.length=k.sz∧(∀ j u,c[j]?=some u→W.cell? (a.add (i*k.sz+j))=some u)∧k.K W y c∧G y:=by
   intro i hi
   obtain⟨cs',h1,h2⟩:=hel i (by omega)
   obtain⟨_,hlen,hcell⟩:=World.cells?_some h1
   rw[hc] at hlen hcell
   obtain⟨y,hy,hG⟩:=hk H enc n cs' _ h2 (by
    rw[List.all_eq_true] at hw2 ⊢
    intro z hz
    exact hw2 z (yi8 (List.mem_map.2 ⟨i,List.mem_range.2 hi,rfl⟩) z hz))
   refine⟨y,cs',hlen,fun j u hu=>?_,hy,hG⟩
   have hj:j<k.sz:=by rw[← hlen];exact(List.getElem?_eq_some_iff.1 hu).1
   have:=hcell j hj
   rw[hu] at this
   rw[← this]
   congr 1
   exact(Go.Deep.add_add _ _ _).symm
  obtain⟨l,hll,hlq⟩:=list_of len hel'
  refine⟨l,⟨some a,m,by rw[hll],by omega,⟨rfl,by rw[hll];unfold maxLen at hm;omega,fun _=>⟨a,rfl,fun j p hj=>?_⟩⟩⟩,fun y hy=>?_,?_⟩
  ·obtain⟨c,h1,h2,h3,_⟩:=hlq j p hj
   exact⟨c,h1,h3,h2⟩
  ·obtain⟨j,hj,rfl⟩:=List.mem_iff_getElem.1 hy
   exact(hlq j _ (List.getElem?_eq_getElem hj)).choose_spec.2.2.2
  ·rw[hll]
   have:=ynu
   refine Nat.le_trans (Nat.mul_le_mul_right _ (show len≤len+(m-len) by omega)) (by omega)
def ymg (P:Program) (W:World) {α:Type} (fs:List Field) (off:Nat) (k:Kd α) (G:α→Prop):Prop:=
 ∀ (H:Type) (enc:TypeId×Value→H) (n:Nat) (cs:List Value) (xs:List (DataW H×List MemPlace)),off+k.sz≤cs.length→xs.length=fs.length→(∀ (i:Nat) (f:Field),fs[i]?=some f→DataW.trod enc P W 0 (fun _=>true) true n f.type ((cs.drop f.offset).take (P.cellsOf f.type))=xs[i]?) →
  (DataW.weightsEach P (fs.map (·.type)) (xs.map (·.1))).all (·≤reachBytes)=true→∃ a,k.K W a ((cs.drop off).take k.sz)∧G a
theorem yrb {α:Type} {f:Field} {off:Nat} {k:Kd α} {G:α→Prop} (h:yga P W f.type k G) (ho:f.offset=off) (hc:P.cellsOf f.type=k.sz):ymg P W [f] off k G:=by
 intro H enc n cs xs hl hx hf hw
 match xs,hx with
 | [x],_ =>
  have h0:=hf 0 f rfl
  rw[ho,hc] at h0
  simp only[List.map_cons,List.map_nil,DataW.weightsEach,List.append_nil] at hw
  exact h H enc n _ x h0 hw
theorem ylo {α β:Type} {f:Field} {r:List Field} {off:Nat} {k:Kd α} {G:α→Prop} {kr:Kd β} {Gr:β→Prop} (h:yga P W f.type k G) (ho:f.offset=off) (hc:P.cellsOf f.type=k.sz) (hr:ymg P W r (off+k.sz) kr Gr):ymg P W (f::r) off (Kd.pair k kr) (fun p=>G p.1∧Gr p.2):=by
 intro H enc n cs xs hl hx hf hw
 match xs,hx with
 | x::xs,hx =>
  have h0:=hf 0 f rfl
  rw[ho,hc] at h0
  simp only[List.map_cons,DataW.weightsEach,List.all_append,Bool.and_eq_true] at hw
  have hsz:(Kd.pair k kr).sz=k.sz+kr.sz:=rfl
  rw[hsz] at hl ⊢
  obtain⟨a,ha,hG⟩:=h H enc n _ x h0 hw.1
  obtain⟨b,hb,hGr⟩:=hr H enc n cs xs (by omega) (by simpa using hx) (fun i g hg=>hf (i+1) g hg) hw.2
  refine⟨(a,b),⟨_,_,?_,ha,hb⟩,hG,hGr⟩
  rw[List.take_add,List.drop_drop]
theorem yo1 {α:Type} {t:TypeId} {fs:Array Field} {k:Kd α} {G:α→Prop} (ht:P.underlying t=some (.struct fs)) (hc:P.cellsOf t=k.sz) (h:ymg P W fs.toList 0 k G):yga P W t k G:=by
 intro H enc fuel cs x hx hw
 obtain⟨xs,n,_,rfl,hl,hlen,hf⟩:=DataW.trod_struct ht hx
 rw[hc] at hl
 simp only[DataW.weights,ht] at hw
 obtain⟨a,ha,hG⟩:=h H enc n cs xs (by omega) (by simpa using hlen) (fun i f hi=>hf i f (by simpa using hi)) hw
 rw[List.drop_zero,List.take_of_length_le (by omega)] at ha
 exact⟨a,ha,hG⟩
theorem open_var {α:Type} {H:Type} {enc:TypeId×Value→H} {t:TypeId} {k:Kd α} {G:α→Prop} (h:yga P W t k G) {ts:List TypeId} {ds:List (DataW H)} {j:Nat} {d:DataW H} {v:Value} {ps:List MemPlace} (hsz:(DataW.weightsEach P ts ds).all (·≤reachBytes)=true) (ht:ts[j]?=some t) (hd:ds[j]?=some d)
  (hv:DataW.Trod enc P W 0 (fun _=>true) true t v d ps):∃ a,k.K W a v.cells.toList∧G a:=by
 obtain⟨fuel,hf⟩:=hv
 refine h H enc fuel _ _ hf ?_
 rw[List.all_eq_true] at hsz ⊢
 intro n hn
 exact hsz n (DataW.weights_mem_each ht hd n hn)
theorem slice_cells {α:Type} {e:Nat} {k:Kd α} {a:List α} {p:Option Addr} {len cap:Nat} (h:(Kd.slice e k).K W a (Value.slice p len cap).cells.toList):len=a.length∧a.length≤cap∧k.C W p a.length a:=by
 obtain⟨A,c,he,hl,hC⟩:=h
 simp [Value.cells] at he
 obtain⟨rfl,rfl,rfl⟩:=he
 exact⟨rfl,hl,hC⟩
end
end Go.Proofs.YteeikgjjgfdjgaaGreat.PK
end
section
namespace Go.Proofs.YteeikgjjgfdjgaaGreat.PK
open Go.ChangeShapes Go.WideShapes Go.ChangeAt Go.RowKit Go.Deep YteeikgjjgfdjgaaGreatW.PrintWords
set_option linter.unusedVariables false
set_option linter.unusedSimpArgs false
variable {W:World}
theorem byte_wf {n:Int} (h:(Lit.int .u8 n).wf=true):0≤n∧n<256:=by
 simp only[Lit.wf,IntKind.min,IntKind.max,IntKind.signed,IntKind.bits,Bool.and_eq_true,decide_eq_true_eq] at h
 simp at h
 omega
theorem i64_wf {n:Int} (h:(Lit.int .i64 n).wf=true):I64 n:=by
 simp only[Lit.wf,IntKind.min,IntKind.max,IntKind.signed,IntKind.bits,Bool.and_eq_true,decide_eq_true_eq] at h
 simp at h
 unfold I64
 omega
theorem yqe {P:Program} {t:TypeId} (ht:P.underlying t=some .bool):yga P W t Kd.bool (fun _=>True):=by
 intro H enc fuel cs x hx hw
 cases fuel with
 | zero=>simp [DataW.trod] at hx
 | succ fuel =>
  unfold DataW.trod at hx
  rw[ht] at hx
  split at hx <;> simp_all
  rename_i b
  cases b
  ·exact .inl rfl
  ·exact .inr rfl
def okBytes (l:List Int):Prop:=Bys l∧l.length≤140737488351232
theorem ypi:yga Tryz.prog W 25 (Kd.slice 5 (Kd.int .u8)) okBytes:=
 (ylh (B:=1) Tryz.underlying25 (opens_int Tryz.underlying5) (by kernel_rfl) (by kernel_rfl)).imp fun l h=>⟨fun x hx=>byte_wf (h.1 x hx),by have:=h.2;omega⟩
theorem ypg:yga Tryz.prog W 53 (Kd.pair Kd.bool (Kd.pair (Kd.int .i64) (Kd.slice 5 (Kd.int .u8)))) (fun p=>True∧(Lit.int .i64 p.2.1).wf=true∧okBytes p.2.2):=
 yo1 Tryz.underlying53 (by kernel_rfl) (ylo (yqe Tryz.underlying4) rfl (by kernel_rfl) (ylo (opens_int Tryz.underlying2) rfl (by kernel_rfl) (yrb ypi rfl (by kernel_rfl))))
theorem yq3:yga Tryz.prog W 53 k53 yew:=fun H enc fuel cs x hx hw=>by
 obtain⟨a,h1,_,h2,h3⟩:=ypg H enc fuel cs x hx hw
 exact⟨⟨a.1,a.2.1,a.2.2⟩,h1,i64_wf h2,h3.1,by have:=h3.2;show a.2.2.length≤_;omega⟩
theorem opens_cells:yga Tryz.prog W 22 (Kd.slice 53 k53) (fun l=>(∀ c∈l,yew c)∧l.length*40≤140737488351232):=
 ylh Tryz.underlying22 yq3 (by kernel_rfl) (by kernel_rfl)
end Go.Proofs.YteeikgjjgfdjgaaGreat.PK
end
section
namespace Go.Proofs.YteeikgjjgfdjgaaGreat.PK
open Go.RowKit Go.Deep YteeikgjjgfdjgaaGreatW.PrintWords
set_option linter.unusedVariables false
set_option linter.unusedSimpArgs false
theorem Hold.same {W w':World} (h:Hold W.heap.size W w') {p:MemPlace} (hp:p.block<W.heap.size):W.sameAt w' p:=by
 cases p with
 | cell b o=>exact World.cell?_of_block (w:=W) (h.block b hp hp)
 | map b=>exact h.block b hp hp
theorem Hold.frame {W w':World} (h:Hold W.heap.size W w') (may:MemPlace→Prop):W.keptBut w' may:=by
 refine⟨h.os,h.output,fun i hi=>?_⟩
 rw[h.block i hi hi]
 split <;> simp_all
theorem Hold.trod {H:Type} {enc:TypeId×Value→H} {P:Program} {t:TypeId} (hl:laidOutB P=true) (hr:P.readableRec t=true) (hrow:t<P.types.size) {W W':World} {v:Value} {d:DataW H} {ps:List MemPlace}
  (h:DataW.Trod enc P W 0 (fun _=>true) true t v d ps) (hb:Hold W.heap.size W W') (hlt:∀ x∈ps,x.block<W.heap.size) :
  DataW.Trod enc P W' 0 (fun b=>decide (b<W.heap.size)) true t v d ps:=
 WideElems.Trod_stays hl hr hrow h (fun x hx=>hb.same (hlt x hx)) (fun x hx=>by simpa using hlt x hx)
end Go.Proofs.YteeikgjjgfdjgaaGreat.PK
end
section
namespace Go.Proofs.YteeikgjjgfdjgaaGreat.PK
open Go.RowKit Go.Maps YteeikgjjgfdjgaaGreatW.PrintWords YteeikgjjgfdjgaaGreatW.PrintLast YteeikgjjgfdjgaaGreatW.PrintMore
set_option linter.unusedVariables false
set_option linter.unusedSimpArgs false
theorem ymh (kind codec:Int) (cs:List Cel):(ydb kind codec cs).1.length≤65000:=by
 by_cases h:(ydb kind codec cs).2=0
 ·obtain⟨_,_,_,_,h5,h6,_⟩:=yit h
  rw[h6]
  simp only
  rw[yig,List.length_append]
  omega
 ·rw[yqs h];decide
end Go.Proofs.YteeikgjjgfdjgaaGreat.PK
end
section
namespace Go.Proofs.YteeikgjjgfdjgaaGreat.PK
open Go.RowKit YteeikgjjgfdjgaaGreatW.PrintWords YteeikgjjgfdjgaaGreatW.PrintLast YteeikgjjgfdjgaaGreatW.PrintMore
set_option linter.unusedVariables false
set_option linter.unusedSimpArgs false
theorem yov (l:List Int) (x:Int) (hl:l.length≤1000000):Ev (fun k=>ydz.f k l x) (decide (x∈l)):=by
 have h0:∀ n i:Nat,i+n=l.length→∃ r:Int,Ev (fun k=>ya9.l0 k l x (l.length:Int) (i:Int)) r∧(0≤r↔x∈l.drop i):=by
  intro n
  induction n with
  | zero =>
   intro i h
   refine⟨-1,Ev.step (fun k=>?_) (Ev.now _),?_⟩
   ·rw[ya9.l0,if_neg (by omega)]
   ·rw[List.drop_of_length_le (by omega)];simp
  | succ n ih =>
   intro i h
   have hi:i<l.length:=by omega
   have hrd:rd l (i:Int)=l[i]:=by unfold rd;rw[Int.toNat_natCast,List.getD_eq_getElem?_getD,List.getElem?_eq_getElem hi];rfl
   have hd:l.drop i=l[i]::l.drop (i+1):=List.drop_eq_getElem_cons hi
   by_cases h1:x=l[i]
   ·refine⟨(i:Int),Ev.step (fun k=>?_) (Ev.now _),?_⟩
    ·rw[ya9.l0,if_pos (by omega),if_pos (by omega),if_pos (by omega),hrd,if_pos h1]
    ·rw[hd,← h1];simp
   ·obtain⟨r,hr,hiff⟩:=ih (i+1) (by omega)
    refine⟨r,Ev.step (fun k=>?_) hr,?_⟩
    ·rw[ya9.l0,if_pos (by omega),if_pos (by omega),if_pos (by omega),hrd,if_neg h1,w64s i (by omega)]
    ·rw[hiff,hd,List.mem_cons]
     simp [h1]
 obtain⟨r,hr,hiff⟩:=h0 l.length 0 (by omega)
 have e:decide (x∈l)=decide (r≥0):=decide_eq_decide.2 (by rw[← List.drop_zero (l:=l),← hiff])
 rw[e]
 exact Ev.bind hr (Ev.now _)
def DistMade (w:World) (r:List Int×Int) (e:Ending) (w':World):Prop:=∃ v,e=.returned (.tuple #[v,.int .i64 r.2])∧Below w.heap.size w w'∧(r.2=0→Kd.R (Kd.int .u64) 63 w' w.heap.size (fun _=>True) v r.1)
theorem yqm {b:List Int} {p n:Nat} (hp:p≤b.length):yfu b p n=yfu (b.drop p) 0 n:=by
 have h1:∀ q,b.drop (p+q)=(b.drop p).drop q:=fun q=>by rw[List.drop_drop]
 have h2:b.getD p 0=(b.drop p).getD 0 0:=by rw[List.getD_eq_getElem?_getD,List.getD_eq_getElem?_getD,List.getElem?_drop,Nat.add_zero]
 have h3:(b.length≤p)↔((b.drop p).length≤0):=by rw[List.length_drop];omega
 unfold yfu
 rw[h1,h2,show(0:Nat)+1=1 from rfl]
 by_cases h:b.length≤p
 ·rw[if_pos h,if_pos (h3.1 h)]
 ·rw[if_neg h,if_neg (fun x=>h (h3.2 x))]
theorem dist_any (A:Option Addr) (c:Nat) (l:List Int) (n:Nat) (w:World) (h:Kd.C (Kd.int .u8) w A l.length l) (hc:l.length≤c) (hb:Bys l) (hl:l.length≤65000) (hn:n≤4096) :
  Calls Tryz.prog 108 #[.slice A l.length c,.int .i64 n] w (DistMade w (yfu l 0 n)):=by
 unfold yfu
 by_cases h0:l.length≤0
 ·rw[if_pos h0]
  have h00:l.length=0:=by omega
  clear h hb
  go_enter Tryz.func108,Tryz.ntmps108
  go_wp2
  go_ret2
  exact⟨_,rfl,Below.refl _ _,fun h=>absurd h (by decide)⟩
 rw[if_neg h0]
 obtain⟨ad,rfl,hx0⟩:=Kd.at_int h (0:Int) (by omega) (by omega)
 have a0:ad.add 0=ad:=by simp [Addr.add]
 rw[show rd l (0:Int)=l.getD 0 0 from rfl,show(0:Int).toNat=0 from rfl,a0] at hx0
 have hpos:(0:Int)<(l.length:Int):=by omega
 have hpos2:0<l.length:=by omega
 have hxb:0≤l.getD 0 0∧l.getD 0 0<256:=by
  rw[List.getD_eq_getElem?_getD,List.getElem?_eq_getElem (show 0<l.length by omega)]
  exact hb _ (List.getElem_mem (by omega))
 have hne:l.length≠0:=by omega
 generalize hx:l.getD 0 0=x at *
 by_cases h1:64<x
 ·rw[if_pos h1]
  clear h hb hx
  go_enter Tryz.func108,Tryz.ntmps108
  go_wp2
  go_ret2
  exact⟨_,rfl,Below.refl _ _,fun h=>absurd h (by decide)⟩
 rw[if_neg h1]
 have hx9:=fun(W:World) (hb9:Below w.heap.size w W)=>(hb9.cell (World.block_lt_of_cell? w _ hx0)).trans hx0
 have HX9:=Lib.hid hx9
 clear hx9
 obtain⟨x,rfl⟩:∃ m:Nat,x=(m:Int):=⟨x.toNat,by omega⟩
 rw[Int.toNat_natCast,show 0+1=1 from rfl]
 have hwx:IntKind.i64.wrap (x:Int)=(x:Int):=ydv _ (by omega) (by omega)
 obtain⟨B1,hcut1,hB1,hcc1⟩:=ygh (some ad) c l 1 (by omega) hc
 rw[show((1:Nat):Int)=1 from rfl] at hcut1
 obtain⟨y,hy⟩:∃ y,y=l.drop 1:=⟨_,rfl⟩
 have hyl:y.length=l.length-1:=by rw[hy,List.length_drop]
 have hyb:Bys y:=by rw[hy];exact hb.drop 1
 rw[← hy] at hB1 ⊢
 obtain⟨ku,hku⟩:=(ymy hyb (by omega) (w:=x) (m:=n) (by omega) hn).ex
 have hpu:=@ygf y hyb x n
 generalize yci y x n=ru at *
 obtain⟨us,er⟩:=ru
 simp only at hku hpu ⊢
 have hcall:=fun(w2:World) (hb2:Below w.heap.size w w2)=>yaz.calls ku B1 (c-1) y (x:Int) (n:Int) us er w2 (by rw[hyl];exact Kd.C_below (hB1 w h) hb2) (by omega) hku
 rw[hyl] at hcall
 by_cases he:er=0
 ·subst he
  obtain⟨hul,huf,_⟩:=hpu rfl
  have hu64:U64s us:=fun u hu=>by
   have h1:=huf u hu
   have h2:(2:Int)^x≤2^64:=by exact_mod_cast Nat.pow_le_pow_right (by decide) (show x≤64 by omega)
   have h3:(2:Int)^64=18446744073709551616:=by decide
   constructor
   ·exact h1.1
   ·omega
  obtain⟨kw,hkw⟩:=(yk2 hu64 (by omega)).ex
  obtain⟨kc,hkc⟩:=(yov us 0 (by omega)).ex
  rw[if_neg (by decide)]
  have hwu:=fun(A1:Option Addr) (c1:Nat) (w2:World) (hC:Kd.C (Kd.int .u64) w2 A1 us.length us) (hc1:us.length≤c1)=>ybh.calls kw A1 c1 us _ w2 hC hc1 hkw
  have hcu:=fun(A1:Option Addr) (c1:Nat) (w2:World) (hC:Kd.C (Kd.int .u64) w2 A1 us.length us) (hc1:us.length≤c1)=>ydz.calls kc A1 c1 us 0 _ w2 hC hc1 hkc
  by_cases hw0:widS us=x
  ·rw[hw0] at hwu
   by_cases hz:(0:Int)∈us
   ·rw[if_neg (by rintro(h|h) <;> first|exact h hw0|exact h hz)]
    rw[decide_eq_true hz] at hcu
    have HCA:=Lib.hid hcall;have HWU:=Lib.hid hwu;have HCU:=Lib.hid hcu
    clear h hb hx hcall hyl hyb hB1 hpu hku hy hwu hkw hu64 huf hw0 hul hcu hkc hz
    go_enter Tryz.func108,Tryz.ntmps108
    go_upto_region 5 with (fail)
    go_region_held3 (fun w'=>w'.cell? ad=some (.int .u8 (x:Int))) (exact HX9.out _ (by repeat (first|exact hb1|exact Below.refl _ _|apply yab|apply yat))) (first|(go_at_call 63;refine(HCA.out _ (by repeat (first|exact Below.refl _ _|apply yab|apply yat))).mono ?_;rintro e w1 ⟨v1,rfl,hR1',hb1'⟩;have hb1:=(fun(hx:Below w.heap.size w _)=>yad hx hx.size hb1') (by repeat (first|exact Below.refl _ _|apply yab|apply yat));have hR1:=(fun(hx:Below w.heap.size w _)=>Kd.R_lower hR1' hx.size) (by repeat (first|exact Below.refl _ _|apply yab|apply yat));obtain⟨A1,c1,rfl,hc1,hC1⟩:=Kd.R_reads hR1;clear hR1' hb1'))
    have hx1:=HX9.out _ hb1
    go_upto_region 6 with (fail)
    go_quiet (first|(go_at_call 64;refine(HWU.out A1 c1 _ (by repeat (first|exact hC1|apply Kd.C_drewN|apply Kd.C_drew)) hc1).mono ?_;rintro e w2 ⟨rfl,⟨nd,rfl⟩⟩;(try first|exact⟨rfl,_,World.drewN_drewN _ _ _⟩|exact⟨rfl,_,Eq.trans (World.drewN_drewN _ _ _) (congrArg (World.drewN _) (Nat.add_assoc _ _ _))⟩))|(go_at_call 136;refine(HCU.out A1 c1 _ (by repeat (first|exact hC1|apply Kd.C_drewN|apply Kd.C_drew)) hc1).mono ?_;rintro e w3 ⟨rfl,⟨nd,rfl⟩⟩;(try first|exact⟨rfl,_,World.drewN_drewN _ _ _⟩|exact⟨rfl,_,Eq.trans (World.drewN_drewN _ _ _) (congrArg (World.drewN _) (Nat.add_assoc _ _ _))⟩)))
    all_goals go_wp2
    all_goals go_ret2
    all_goals exact⟨_,rfl,by repeat (first|exact hb1|apply yab|apply yat),fun _=>by repeat (first|exact hR1|apply Kd.R_drewN|apply Kd.R_drew)⟩
   ·rw[if_pos (.inr hz)]
    rw[decide_eq_false hz] at hcu
    have HCA:=Lib.hid hcall;have HWU:=Lib.hid hwu;have HCU:=Lib.hid hcu
    clear h hb hx hcall hyl hyb hB1 hpu hku hy hwu hkw hu64 huf hw0 hul hcu hkc hz
    go_enter Tryz.func108,Tryz.ntmps108
    go_upto_region 5 with (fail)
    go_region_held3 (fun w'=>w'.cell? ad=some (.int .u8 (x:Int))) (exact HX9.out _ (by repeat (first|exact hb1|exact Below.refl _ _|apply yab|apply yat))) (first|(go_at_call 63;refine(HCA.out _ (by repeat (first|exact Below.refl _ _|apply yab|apply yat))).mono ?_;rintro e w1 ⟨v1,rfl,hR1',hb1'⟩;have hb1:=(fun(hx:Below w.heap.size w _)=>yad hx hx.size hb1') (by repeat (first|exact Below.refl _ _|apply yab|apply yat));have hR1:=(fun(hx:Below w.heap.size w _)=>Kd.R_lower hR1' hx.size) (by repeat (first|exact Below.refl _ _|apply yab|apply yat));obtain⟨A1,c1,rfl,hc1,hC1⟩:=Kd.R_reads hR1;clear hR1' hb1'))
    have hx1:=HX9.out _ hb1
    go_upto_region 6 with (fail)
    go_quiet (first|(go_at_call 64;refine(HWU.out A1 c1 _ (by repeat (first|exact hC1|apply Kd.C_drewN|apply Kd.C_drew)) hc1).mono ?_;rintro e w2 ⟨rfl,⟨nd,rfl⟩⟩;(try first|exact⟨rfl,_,World.drewN_drewN _ _ _⟩|exact⟨rfl,_,Eq.trans (World.drewN_drewN _ _ _) (congrArg (World.drewN _) (Nat.add_assoc _ _ _))⟩))|(go_at_call 136;refine(HCU.out A1 c1 _ (by repeat (first|exact hC1|apply Kd.C_drewN|apply Kd.C_drew)) hc1).mono ?_;rintro e w3 ⟨rfl,⟨nd,rfl⟩⟩;(try first|exact⟨rfl,_,World.drewN_drewN _ _ _⟩|exact⟨rfl,_,Eq.trans (World.drewN_drewN _ _ _) (congrArg (World.drewN _) (Nat.add_assoc _ _ _))⟩)))
    all_goals go_wp2
    all_goals go_ret2
    all_goals exact⟨_,rfl,by repeat (first|exact hb1|apply yab|apply yat),fun h=>absurd h (by decide)⟩
  ·rw[if_pos (.inl hw0)]
   have hwz:decide (((widS us:Nat):Int)=(x:Int))=false:=by simp;omega
   have hwb:(((widS us:Nat):Int) == (x:Int))=false:=by simp;omega
   have hwn:(((widS us:Nat):Int) != (x:Int))=true:=by simp;omega
   have hwd:¬ (((widS us:Nat):Int)=(x:Int)):=by omega
   generalize ((widS us:Nat):Int)=W0 at *
   have HCA:=Lib.hid hcall;have HWU:=Lib.hid hwu
   clear h hb hx hcall hyl hyb hB1 hpu hku hy hwu hkw hu64 huf hw0 hul hcu hkc
   go_enter Tryz.func108,Tryz.ntmps108
   go_upto_region 5 with (fail)
   go_region_held3 (fun w'=>w'.cell? ad=some (.int .u8 (x:Int))) (exact HX9.out _ (by repeat (first|exact hb1|exact Below.refl _ _|apply yab|apply yat))) (first|(go_at_call 63;refine(HCA.out _ (by repeat (first|exact Below.refl _ _|apply yab|apply yat))).mono ?_;rintro e w1 ⟨v1,rfl,hR1',hb1'⟩;have hb1:=(fun(hx:Below w.heap.size w _)=>yad hx hx.size hb1') (by repeat (first|exact Below.refl _ _|apply yab|apply yat));have hR1:=(fun(hx:Below w.heap.size w _)=>Kd.R_lower hR1' hx.size) (by repeat (first|exact Below.refl _ _|apply yab|apply yat));obtain⟨A1,c1,rfl,hc1,hC1⟩:=Kd.R_reads hR1;clear hR1' hb1'))
   have hx1:=HX9.out _ hb1
   go_upto_region 6 with (fail)
   go_quiet (first|(go_at_call 64;refine(HWU.out A1 c1 _ (by repeat (first|exact hC1|apply Kd.C_drewN|apply Kd.C_drew)) hc1).mono ?_;rintro e w2 ⟨rfl,⟨nd,rfl⟩⟩;(try first|exact⟨rfl,_,World.drewN_drewN _ _ _⟩|exact⟨rfl,_,Eq.trans (World.drewN_drewN _ _ _) (congrArg (World.drewN _) (Nat.add_assoc _ _ _))⟩)))
   all_goals go_wp2
   all_goals go_ret2
   all_goals exact⟨_,rfl,by repeat (first|exact hb1|apply yab|apply yat),fun h=>absurd h (by decide)⟩
 ·rw[if_pos he]
  have heb:(er == 0)=false:=by simpa using he
  have HCA:=Lib.hid hcall;have HE:=Lib.hid he
  clear h hb hx hcall hyl hyb hB1 hpu hku hy
  go_enter Tryz.func108,Tryz.ntmps108
  go_upto_region 5 with (fail)
  go_region_held3 (fun w'=>w'.cell? ad=some (.int .u8 (x:Int))) (exact HX9.out _ (by repeat (first|exact hb1|exact Below.refl _ _|apply yab|apply yat))) (first|(go_at_call 63;refine(HCA.out _ (by repeat (first|exact Below.refl _ _|apply yab|apply yat))).mono ?_;rintro e w1 ⟨v1,rfl,hR1',hb1'⟩;have hb1:=(fun(hx:Below w.heap.size w _)=>yad hx hx.size hb1') (by repeat (first|exact Below.refl _ _|apply yab|apply yat));have hR1:=(fun(hx:Below w.heap.size w _)=>Kd.R_lower hR1' hx.size) (by repeat (first|exact Below.refl _ _|apply yab|apply yat));obtain⟨A1,c1,rfl,hc1,hC1⟩:=Kd.R_reads hR1;clear hR1' hb1'))
  have hx1:=HX9.out _ hb1
  go_upto_region 6 with (fail)
  go_quiet (fail)
  all_goals go_wp2
  all_goals go_ret2
  all_goals exact⟨_,rfl,(by repeat (first|exact hb1|exact Below.refl _ _|apply yab|apply yat)),fun h=>absurd h HE.out⟩
theorem pk_room {y:Int} (h:I64 y):IntKind.u64.wrap (9223372036854775807-IntKind.u64.wrap y)=9223372036854775807-y:=by
 obtain⟨h1,h2⟩:=h
 rw[IntKind.wrap_u64,IntKind.wrap_u64];omega
theorem pk_sum {y d:Int} (h:I64 y) (h0:0≤d) (h1:¬ 9223372036854775807-y<d):IntKind.i64.wrap (IntKind.u64.wrap (IntKind.u64.wrap y+d))=y+d:=by
 obtain⟨h2,h3⟩:=h
 have e1:IntKind.u64.wrap (IntKind.u64.wrap y+d)=(y+d)%18446744073709551616:=by rw[IntKind.wrap_u64,IntKind.wrap_u64];omega
 rw[e1,IntKind.wrap_i64]
 omega
theorem pkDec_any (A:Option Addr) (c:Nat) (b:List Int) (w:World) (h:Kd.C (Kd.int .u8) w A b.length b) (hc:b.length≤c) (hb:Bys b) (hl:b.length≤65000) :
  Calls Tryz.prog 68 #[.slice A b.length c] w (yog w (yfa b).1 (yfa b).2):=by
 have hg0:=yfr h hc hb (by omega) (Nat.zero_le _) w (Below.refl _ _)
 have hgp:=fun(p:Nat) (hp:p≤b.length)=>yfr h hc hb (by omega) hp
 have hle0:=fun h=>yeh hb (p:=0) h
 unfold yfa
 rw[show(((0:Nat):Int))=0 from rfl] at hg0
 have hlt:=fun h=>ye4 (p:=0) hb h
 generalize hv0:vget b 0=r0 at *
 obtain⟨n,q,e0⟩:=r0
 simp only at hg0 hle0 hlt ⊢
 by_cases he:e0=0
 rotate_left
 ·rw[if_pos he]
  have heb:(e0 == 0)=false:=by simpa using he
  have HG:=Lib.hid hg0
  clear h hb hgp hg0 hle0 hlt hv0
  go_enter Tryz.func68,Tryz.ntmps68
  go_wp2_with (go_at_call 39;refine(HG.out).mono ?_;rintro e w1 ⟨rfl,⟨m1,rfl⟩⟩)
  go_ret2
  exact⟨_,rfl,Kd.R_nil _ _ _ _ _,yab (Below.refl _ _) _⟩
 subst he
 rw[if_neg (by decide)]
 have hle:=hle0 rfl
 have hn64:=hlt rfl
 by_cases hn:4096<n
 ·rw[if_pos hn]
  have hi:(4096:Int)<(n:Int):=by omega
  have HG:=Lib.hid hg0
  clear h hb hgp hg0 hle0 hlt hv0
  go_enter Tryz.func68,Tryz.ntmps68
  go_wp2_with (go_at_call 39;refine(HG.out).mono ?_;rintro e w1 ⟨rfl,⟨m1,rfl⟩⟩)
  go_ret2
  exact⟨_,rfl,Kd.R_nil _ _ _ _ _,yab (Below.refl _ _) _⟩
 rw[if_neg hn]
 have hi:decide ((4096:Int)<(n:Int))=false:=by simp;omega
 have hi3:n≤4096:=by omega
 by_cases hz:n=0
 ·subst hz
  rw[if_pos rfl]
  have HG:=Lib.hid hg0
  by_cases hq:q<b.length
  ·rw[if_pos hq]
   have hqi:(q:Int)<(b.length:Int):=by omega
   clear h hb hgp hg0 hle0 hlt hv0
   go_enter Tryz.func68,Tryz.ntmps68
   go_wp2_with (go_at_call 39;refine(HG.out).mono ?_;rintro e w1 ⟨rfl,⟨m1,rfl⟩⟩)
   go_ret2
   exact⟨_,rfl,Kd.R_nil _ _ _ _ _,yab (Below.refl _ _) _⟩
  ·rw[if_neg hq]
   have hqi:decide ((q:Int)<(b.length:Int))=false:=by simp;omega
   have hqn:b.length≤q:=by omega
   clear h hb hgp hg0 hle0 hlt hv0
   go_enter Tryz.func68,Tryz.ntmps68
   go_wp2_with (go_at_call 39;refine(HG.out).mono ?_;rintro e w1 ⟨rfl,⟨m1,rfl⟩⟩)
   go_ret2
   exact⟨_,rfl,Kd.R_nil _ _ _ _ _,yab (Below.refl _ _) _⟩
 rw[if_neg hz]
 have hzb:((n:Int) == 0)=false:=by simp;omega
 have hzd:¬ (n:Int)=0:=by omega
 have hzn:0<n:=by omega
 have hg1:=hgp q hle.1
 have hl1:=fun h=>yeh hb (p:=q) h
 have hs1:=fun h=>ye4 (p:=q) hb h
 have hqle:=hle.1
 generalize vget b q=r1 at *
 obtain⟨u,q2,e1⟩:=r1
 simp only at hg1 hl1 hs1 ⊢
 by_cases he1:e1=0
 rotate_left
 ·rw[if_pos he1]
  have heb:(e1 == 0)=false:=by simpa using he1
  have HG:=Lib.hid hg0;have HG1:=Lib.hid hg1
  clear h hb hgp hg0 hle0 hlt hv0 hg1 hl1 hs1
  go_enter Tryz.func68,Tryz.ntmps68
  go_upto_region 10 with (go_at_call 39;refine(HG.out).mono ?_;rintro e w1 ⟨rfl,⟨m1,rfl⟩⟩)
  go_wp2_with (go_at_call 39;refine(HG1.out _ (by repeat (first|exact Below.refl _ _|apply yab))).mono ?_;rintro e w2 ⟨rfl,⟨m2,rfl⟩⟩)
  go_ret2
  exact⟨_,rfl,Kd.R_nil _ _ _ _ _,by repeat (first|exact Below.refl _ _|apply yab)⟩
 subst he1
 rw[if_neg (by decide)]
 have hq2:=(hl1 rfl).1
 have hu64:=hs1 rfl
 rw[yqm hq2]
 have hok:(yfu (b.drop q2) 0 n).2=0→∃ us w,yfu (b.drop q2) 0 n=(us,0)∧us.length=n∧w≤64∧Fit w us:=fun h=>by
  obtain⟨us,w,h1,h2,h3,_,h4,_⟩:=yol (hb.drop q2) h
  exact⟨us,w,h1,h2,h3,h4⟩
 obtain⟨B1,hcut1,hB1,hcc1⟩:=ygh A c b q2 hq2 hc
 have hdc:=fun(w2:World) (hb2:Below w.heap.size w w2)=>dist_any B1 (c-q2) (b.drop q2) n w2 (by rw[List.length_drop];exact hB1 w2 (Kd.C_below h hb2)) (by rw[List.length_drop];exact hcc1) (hb.drop q2) (by rw[List.length_drop];omega) hi3
 rw[List.length_drop] at hdc
 have hnw:IntKind.i64.wrap (n:Int)=(n:Int):=ydv _ (by omega) (by omega)
 have hq2i:(q2:Int)≤(b.length:Int):=by omega
 generalize yfu (b.drop q2) 0 n=dr at *
 obtain⟨us,e2⟩:=dr
 simp only at hdc hok ⊢
 have HG:=Lib.hid hg0;have HG1:=Lib.hid hg1;have HD:=Lib.hid hdc
 by_cases he2:e2=0
 rotate_left
 ·rw[if_pos he2]
  have heb:(e2 == 0)=false:=by simpa using he2
  clear h hb hgp hg0 hle0 hlt hv0 hg1 hl1 hs1 hB1 hdc hok
  go_enter Tryz.func68,Tryz.ntmps68
  go_upto_region 10 with (go_at_call 39;refine(HG.out).mono ?_;rintro e w1 ⟨rfl,⟨m1,rfl⟩⟩)
  go_upto_region 13 with (go_at_call 39;refine(HG1.out _ (by repeat (first|exact Below.refl _ _|apply yab))).mono ?_;rintro e w2 ⟨rfl,⟨m2,rfl⟩⟩)
  go_wp2_with (go_at_call 108;refine(HD.out _ (by repeat (first|exact Below.refl _ _|apply yab))).mono ?_;rintro e w3 ⟨v3,rfl,hb3,_⟩;have hb3':=(fun(hx:Below w.heap.size w _)=>yad hx hx.size hb3) (by repeat (first|exact Below.refl _ _|apply yab)))
  go_ret2
  exact⟨_,rfl,Kd.R_nil _ _ _ _ _,hb3'⟩
 subst he2
 rw[if_neg (by decide)]
 obtain⟨us',wd,h1,hul,hw64,hfit⟩:=hok rfl
 obtain rfl:us=us':=congrArg Prod.fst h1
 have hun:=yjt hu64
 have hyI:=yhf hu64
 generalize ydh u=y at *
 obtain⟨L,hL⟩:∃ L,L=us.map fun d=>y+d:=⟨_,rfl⟩
 have hLl:L.length=n:=by rw[hL,List.length_map,hul]
 have hat:∀ (k:Nat) (hk:k<us.length),¬ 9223372036854775807-y<us[k]→L[k]?=some (IntKind.i64.wrap (IntKind.u64.wrap (IntKind.u64.wrap y+us[k]))):=fun k hk hn=>by
  have h0:=(hfit _ (List.getElem_mem hk)).1
  rw[pk_sum hyI h0 hn,hL]
  simp [hk]
 have hroom:=pk_room hyI
 have hab:yif y us=if ∃ d∈us,9223372036854775807-y<d then ([],5) else (L,0):=by unfold yif;rw[hL]
 obtain⟨X,hX⟩:∃ X,X=yif y us:=⟨_,rfl⟩
 rw[← hX] at hab ⊢
 have HAT:=Lib.hid hat;have HX:=Lib.hid hab;have HUN:=Lib.hid hun;have HRM:=Lib.hid hroom
 have hmk:=fun W=>run_make_row' (P:=Tryz.prog) 94 2 (.int .i64 0) 8 Tryz.underlying94 yk7 rfl .u64 .u64 n (by omega) (by omega) W
 clear h hb hgp hg0 hle0 hlt hv0 hg1 hl1 hs1 hB1 hdc hok h1 hun hyI hfit hL hat hab hroom hu64 hX
 subst hul
 go_enter Tryz.func68,Tryz.ntmps68
 go_upto_region 10 with (go_at_call 39;refine(HG.out).mono ?_;rintro e w1 ⟨rfl,⟨m1,rfl⟩⟩)
 go_upto_region 13 with (go_at_call 39;refine(HG1.out _ (by repeat (first|exact Below.refl _ _|apply yab))).mono ?_;rintro e w2 ⟨rfl,⟨m2,rfl⟩⟩)
 go_upto_region 16 with (go_at_call 108;refine(HD.out _ (by repeat (first|exact Below.refl _ _|apply yab))).mono ?_;rintro e w3 ⟨v3,rfl,hb3,hR3⟩;have hb3':=(fun(hx:Below w.heap.size w _)=>yad hx hx.size hb3) (by repeat (first|exact Below.refl _ _|apply yab));have hR3':=(fun(hx:Below w.heap.size w _)=>Kd.R_lower (hR3 rfl) hx.size) (by repeat (first|exact Below.refl _ _|apply yab));obtain⟨A3,c3,rfl,hc3,hC3⟩:=Kd.R_reads hR3';clear hb3 hR3)
 go_upto_region 17 with (go_at_call 105;refine(yfj.calls _ _ _ HUN.out).mono ?_;rintro e w6 ⟨rfl,⟨m6,rfl⟩⟩)
 have hb6:=yab hb3' m6
 have hO6:=Kd.own_of_R (Kd.R_drewN hR3' m6)
 generalize w3.drewN m6=wr at *
 have hRM:=yie wr w.heap.size 2 .i64 us.length hb6.size (by omega)
 have hBM:Below w.heap.size w (wr.alloc (.cells (madeCells #[.int .i64 0] us.length) 2)):=hb6.alloc hb6.size _
 have hOM:=(yak (Below.refl wr.heap.size wr) (.cells (madeCells #[.int .i64 0] us.length) 2))
 have hCM:=yfc hO6 (fun k hk=>hOM.block k (ygc hO6 k hk))
 rw[← hLl,← yl0,hLl] at hRM
 go_upto_region 18 with (fail)
 have HCM:=Lib.hid hCM
 generalize (wr.alloc (.cells (madeCells #[.int .i64 0] us.length) 2))=wy at *
 generalize wr.heap.size=g3 at *
 clear hmk hcut1 hb6 hb3' hO6 hC3 hCM hR3' hOM HG HG1 HD HUN
 go_wp2
 go_loopw [11,12,66] (fun _ _ vi wq=>∃ k:Nat,k≤us.length∧vi=.int .i64 k∧RowKit.Hid (∀ (j:Nat) (hj:j<us.length),j<k→¬ 9223372036854775807-y<us[j])∧RowKit.Hid (wq.ownsRow w.heap.size 2 1 (.slice (some ⟨g3,0,none⟩) us.length us.length) us.length (nums .i64 (usd L k)))∧RowKit.Hid (wq.ownsRow w.heap.size 63 1 (.slice A3 us.length c3) us.length (nums .u64 us))∧RowKit.Hid (Below w.heap.size w wq)) (fun _ _ vi _=>us.length-(intOf vi).toNat)
 case atStart=>exact⟨0,by omega,rfl,Lib.hid (fun j hj h=>absurd h (Nat.not_lt_zero _)),Lib.hid hRM,HCM,Lib.hid hBM⟩
 case round =>
  obtain⟨k,hk,rfl,HN,HR,HO,HB⟩:=hrel
  have HC:=Lib.hid (Kd.R_reads' (d:=Kd.int .u64) (ok:=fun _=>True) (Kd.R_of_own HO.out (fun _ _=>trivial))).2.2
  by_cases hlt:k<us.length
  ·obtain⟨ad,rfl,hx⟩:=Kd.at_int HC.out (k:Int) (by omega) (by omega)
   rw[yb3 hlt,Int.toNat_natCast] at hx
   have hfk:=HAT.out k hlt
   obtain⟨hcc,hfr⟩:=ymp HR.out (k:Int) (by omega) (by omega)
   rw[Int.toNat_natCast] at hcc hfr
   by_cases hbig:9223372036854775807-y<us[k]
   ·have hXe:=HX.out
    rw[if_pos ⟨us[k],List.getElem_mem hlt,hbig⟩] at hXe
    obtain⟨x,hxx⟩:∃ x,x=us[k]:=⟨_,rfl⟩
    rw[← hxx] at hx hbig
    have hrm:=HRM.out
    have hcmp:IntKind.u64.wrap (9223372036854775807-IntKind.u64.wrap y)<x:=by rw[hrm];exact hbig
    clear hbig hrm hxx hfk hcc hfr HX
    subst hXe
    go_wp2
    go_ret2
    exact⟨_,rfl,Kd.R_nil _ _ _ _ _,HB.out⟩
   ·have hf:=hfk (by first|exact hbig|omega)
    have hn1:∀ (j:Nat) (hj:j<us.length),j<k+1→¬ 9223372036854775807-y<us[j]:=fun j hj h=>by
     by_cases e:j=k
     ·subst e;exact hbig
     ·exact HN.out j hj (by omega)
    have HN1:=Lib.hid hn1
    obtain⟨x,hxx⟩:∃ x,x=us[k]:=⟨_,rfl⟩
    rw[← hxx] at hx hbig hf
    have hrm:=HRM.out
    have hcmp:decide (IntKind.u64.wrap (9223372036854775807-IntKind.u64.wrap y)<x)=false:=by rw[hrm];simpa using hbig
    have hcmp2:¬ (IntKind.u64.wrap (9223372036854775807-IntKind.u64.wrap y)<x):=by rw[hrm];exact hbig
    have HF:=Lib.hid hf;have HLT:=Lib.hid hlt
    clear hbig hrm hxx hfk hf hn1 hlt HX
    go_wp2
    go_roundw
    case rel =>
     have hlt:=HLT.out
     have hst:=yis HR.out (k:Int) (IntKind.i64.wrap (IntKind.u64.wrap (IntKind.u64.wrap y+x)))
     rw[Int.toNat_natCast] at hst
     obtain⟨hst1,hst2⟩:=hst
     have he:L[k]'(by omega)=IntKind.i64.wrap (IntKind.u64.wrap (IntKind.u64.wrap y+x)):=by
      have:=HF.out
      rw[List.getElem?_eq_getElem (by omega)] at this
      exact Option.some.inj this
     rw[← he,ymz L k (by omega),he] at hst1
     rw[ya4] at hst1 hst2
     refine⟨k+1,by omega,by go_num,HN1,Lib.hid hst1,Lib.hid (yil HO.out hst2 (yhm HO.out HR.out (by decide))),Lib.hid (HB.out.grown hst2 HB.out.size (fun k' hk'=>?_))⟩
     injection hk' with hk'
     have:=yd1 HR.out g3 rfl
     omega
    case measure=>have:=HLT.out;simp [intOf];omega
  ·obtain rfl:k=us.length:=by omega
   have hXe:=HX.out
   rw[if_neg (by rintro⟨d,hd,hd2⟩;obtain⟨j,hj,rfl⟩:=List.mem_iff_getElem.1 hd;exact HN.out j hj hj hd2)] at hXe
   have hR9:=HR.out
   rw[← hLl,ym3,hLl] at hR9
   have hRU:Kd.R (Kd.int .i64) 2 wr w.heap.size (fun _=>True) (.slice (some ⟨g3,0,none⟩) us.length us.length) L:=Kd.R_of_own (by rw[hLl];exact hR9) (fun _ _=>trivial)
   have HRU:=Lib.hid hRU
   clear hR9 hRU HR HN HX
   subst hXe
   go_wp2
   go_ret2
   exact⟨_,rfl,HRU.out,HB.out⟩
theorem decPk_len {b:List Int} (hb:Bys b):(yfa b).1.length≤4096:=by
 by_cases h:(yfa b).2=0
 ·exact(ykw hb h).2.2
 ·rw[decPk_err h];simp
theorem yl9 {kind:Int}:yg9 kind 3:=by
 intro b n hb h c hc
 unfold yb6 at h hc
 rw[if_neg (by decide),if_neg (by decide),if_pos rfl] at h hc
 obtain⟨h1,h2,h3⟩:=yf2 h
 rw[h3] at hc
 obtain⟨v,hv,rfl⟩:=List.mem_map.1 hc
 exact yl4 ((ykw hb h1).2.1 v hv)
theorem yl7 (kind:Int) (A:Option Addr) (c:Nat) (b:List Int) (n:Nat) (w:World) (h:Kd.C (Kd.int .u8) w A b.length b) (hc:b.length≤c) (hb:Bys b) (hl:b.length≤65000) (hn:n≤4096) :
  Calls Tryz.prog 41 #[.int .i64 kind,.int .i64 3,.slice A b.length c,.int .i64 n] w (yex w (yb6 kind 3 b n).1 (yb6 kind 3 b n).2):=by
 have hd:=pkDec_any A c b w h hc hb hl
 have hlen:=decPk_len hb
 have hcd:yb6 kind 3 b n=yc0 ((yfa b).1.map ye1) (yfa b).2 n:=by unfold yb6;rw[if_neg (by decide),if_neg (by decide),if_pos rfl]
 rw[hcd]
 clear hcd
 generalize yfa b=r at *
 obtain⟨vs,er⟩:=r
 simp only at hd hlen ⊢
 obtain⟨k,hk⟩:=(yin vs er hlen).ex
 have hml:(vs.map ye1).length=vs.length:=List.length_map _
 have hlen2:(vs.map ye1).length≤4096:=by omega
 generalize vs.map ye1=cs at *
 have HD:=Lib.hid hd;have HK:=Lib.hid hk
 clear h hb hd hk hml hlen
 by_cases he:er=0
 ·subst he
  by_cases hm:cs.length=n
  ·have hX:yc0 cs 0 n=(cs,0):=yfi cs n hm
   rw[hX]
   subst hm
   clear hX
   go_enter Tryz.func41,Tryz.ntmps41
   go_upto_region 11 with (first
    | (go_at_call 68;refine HD.out.mono ?_;rintro e w1 ⟨v1,rfl,hR1,hb1⟩;obtain⟨A1,c1,rfl,hc1,hC1⟩:=Kd.R_reads hR1)
    | (go_at_call 66;refine(ybm.calls k A1 c1 vs 0 cs 0 _ hC1 hc1 HK.out).mono ?_;rintro e w2 ⟨v2,rfl,hS2,hb2⟩;obtain⟨A2,c2,rfl,hc2,hC2⟩:=Kd.S_reads hS2))
   have hb3:=yad hb1 hb1.size hb2
   have hS3:=Lib.hid (Kd.S_lower hS2 hb1.size)
   clear hS2 hC2 hR1 hC1
   go_wp2
   go_ret2
   exact⟨_,rfl,hb3,fun _=>CelB.of_S hS3.out⟩
  ·have hX:yc0 cs 0 n=([],5):=by unfold yc0;rw[if_neg (by decide),if_pos hm]
   rw[hX]
   have hmi:¬ (cs.length:Int)=(n:Int):=by omega
   have hmb:((cs.length:Int) == (n:Int))=false:=by simpa using hmi
   clear hX
   go_enter Tryz.func41,Tryz.ntmps41
   go_upto_region 11 with (first
    | (go_at_call 68;refine HD.out.mono ?_;rintro e w1 ⟨v1,rfl,hR1,hb1⟩;obtain⟨A1,c1,rfl,hc1,hC1⟩:=Kd.R_reads hR1)
    | (go_at_call 66;refine(ybm.calls k A1 c1 vs 0 cs 0 _ hC1 hc1 HK.out).mono ?_;rintro e w2 ⟨v2,rfl,hS2,hb2⟩;obtain⟨A2,c2,rfl,hc2,hC2⟩:=Kd.S_reads hS2))
   have hb3:=yad hb1 hb1.size hb2
   have hS3:=Lib.hid (Kd.S_lower hS2 hb1.size)
   clear hS2 hC2 hR1 hC1
   go_wp2
   go_ret2
   exact⟨_,rfl,hb3,fun h=>absurd h (by decide)⟩
 ·have hX:yc0 cs er n=([],er):=by unfold yc0;rw[if_pos he]
  rw[hX]
  have heb:(er == 0)=false:=by simpa using he
  clear hX
  go_enter Tryz.func41,Tryz.ntmps41
  go_upto_region 11 with (first
   | (go_at_call 68;refine HD.out.mono ?_;rintro e w1 ⟨v1,rfl,hR1,hb1⟩;obtain⟨A1,c1,rfl,hc1,hC1⟩:=Kd.R_reads hR1)
   | (go_at_call 66;refine(ybm.calls k A1 c1 vs er cs er _ hC1 hc1 HK.out).mono ?_;rintro e w2 ⟨v2,rfl,hS2,hb2⟩;obtain⟨A2,c2,rfl,hc2,hC2⟩:=Kd.S_reads hS2))
  have hb3:=yad hb1 hb1.size hb2
  have hS3:=Lib.hid (Kd.S_lower hS2 hb1.size)
  clear hS2 hC2 hR1 hC1
  go_wp2
  go_ret2
  exact⟨_,rfl,hb3,fun h=>absurd h he⟩
theorem yoc (kind:Int):yf1 kind 3:=fun A c b n w h hc hb hl hn=>yl7 kind A c b n w h hc hb hl hn
end Go.Proofs.YteeikgjjgfdjgaaGreat.PK
end
