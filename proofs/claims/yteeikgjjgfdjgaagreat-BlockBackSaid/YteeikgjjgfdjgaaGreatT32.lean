/-
  Parts of the proof: AKs, AKt, AKy, Cw, Cx, Xg, Xh, Xi, Yd, Ye, Ya.
-/
import Derived.Test.YteeikgjjgfdjgaaGreatT25
import Derived.Deep.Upon
import Derived.Test.YteeikgjjgfdjgaaGreatT29
import Derived.Test.YteeikgjjgfdjgaaGreatT13
import Derived.Test.YteeikgjjgfdjgaaGreatT8
import Derived.Test.YteeikgjjgfdjgaaGreatT9
import Derived.Test.YteeikgjjgfdjgaaGreatT7
import Derived.Test.YteeikgjjgfdjgaaGreatT26
import Derived.Test.YteeikgjjgfdjgaaGreatT22
import Derived.SizedLaws
import Derived.ChangeSame
import Derived.Deep.Slices
import Derived.Deep.Strs
import Derived.ProofKit
import Derived.OpenShut
import Derived.Test.YteeikgjjgfdjgaaGreatT23
import Derived.Carry
import Derived.ChangeOld
import Derived.Test.YteeikgjjgfdjgaaGreatT5
import Derived.Test.YteeikgjjgfdjgaaGreatT21
import Derived.Test.YteeikgjjgfdjgaaGreatT24
import Derived.Test.YteeikgjjgfdjgaaGreatT28
section
namespace Go.Proofs.YteeikgjjgfdjgaaGreat.PK
open Go.RowKit Go.Maps Go.Proofs.YteeikgjjgfdjgaaGreatW.PrintWords Go.Proofs.YteeikgjjgfdjgaaGreatW.PrintLast Go.Proofs.YteeikgjjgfdjgaaGreatW.PrintMore
set_option linter.unusedVariables false
set_option linter.unusedSimpArgs false
structure Hold (B:Nat) (w w':World):Prop where
 os:w'.os=w.os
 output:w'.output=w.output
 size:w.heap.size≤w'.heap.size
 block:∀ k,k<B→k<w.heap.size→w'.heap[k]?=w.heap[k]?
theorem Hold.of_below {B:Nat} {w w':World} (h:Below B w w'):Hold B w w':=⟨h.os,h.output,h.size,fun k hk _=>h.block k hk⟩
theorem Hold.trans {B:Nat} {a b c:World} (h:Hold B a b) (k:Hold B b c):Hold B a c:=
 ⟨k.os.trans h.os,k.output.trans h.output,Nat.le_trans h.size k.size,fun i hi hl=>(k.block i hi (by have:=h.size;omega)).trans (h.block i hi hl)⟩
theorem Hold.mono {B B':Nat} {w w':World} (h:Hold B w w') (hB:B'≤B):Hold B' w w':=⟨h.os,h.output,h.size,fun k hk hl=>h.block k (by omega) hl⟩
theorem Hold.below {w w':World} (h:Hold w.heap.size w w'):Below w.heap.size w { w' with tape:=w.tape }:=⟨h.os,rfl,h.output,h.size,fun k hk=>h.block k hk hk⟩
theorem Byt.cell {w:World} {base:Nat} {og:Option Nat} {v:Value} {xs:List Int} (h:Byt w base og v xs) {i:Nat} (hi:i<xs.length):∃ g cap,og=some g∧v=.slice (some ⟨g,0,none⟩) xs.length cap∧w.cell? ⟨g,i,none⟩=some (.int .u8 xs[i])∧w.frozen? ⟨g,i,none⟩=false:=by
 rcases h with ⟨_,_,rfl⟩|⟨g,cap,cells,m,h1,h2,h3,h4,hh,h6,h7,hx,hcell⟩
 ·simp at hi
 ·refine⟨g,cap,h1,h2,?_,?_⟩
  ·simp only[World.cell?,hh]
   rw[hcell i hi]
   simp
  ·simp only[World.frozen?,hh]
   rcases h7 with h7|h7
   ·simp;omega
   ·simp;omega
theorem Byt.store {w:World} {base g:Nat} {v:Value} {xs:List Int} (h:Byt w base (some g) v xs) {i:Nat} (hi:i<xs.length) (x:Int):Byt (w.setCell ⟨g,i,none⟩ (.int .u8 x)) base (some g) v (xs.set i x)∧w.grownBy (w.setCell ⟨g,i,none⟩ (.int .u8 x)) (some g):=by
 rcases h with ⟨h,_⟩|⟨g',cap,cells,m,h1,h2,h3,h4,hh,h6,h7,hx,hcell⟩
 ·cases h
 ·injection h1 with h1
  subst h1
  refine⟨.inr ⟨g,cap,cells.setIfInBounds i (.int .u8 x),m,rfl,by rw[List.length_set];exact h2,h3,by rw[List.length_set];exact h4,?_,by simpa using h6,h7,hx,fun j hj=>?_⟩,⟨rfl,rfl,rfl,by simp,fun k _ hk=>heap_setCell_other w ⟨g,i,none⟩ k _ (fun e=>hk (by simp [e]))⟩⟩
  ·simp only[World.setCell,Array.getElem?_modify,if_pos rfl,hh]
   rfl
  ·rw[List.length_set] at hj
   rw[Array.getElem?_setIfInBounds]
   by_cases hij:i=j
   ·subst hij
    rw[if_pos rfl,if_pos (by omega)]
    simp
   ·rw[if_neg hij,hcell j hj,List.getElem_set_ne hij]
structure Side (base B:Nat) (w w':World):Prop where
 os:w'.os=w.os
 output:w'.output=w.output
 size:w.heap.size≤w'.heap.size
 block:∀ k,k<w.heap.size→(k<base∨B≤k)→w'.heap[k]?=w.heap[k]?
theorem Side.refl (base B:Nat) (w:World):Side base B w w:=⟨rfl,rfl,Nat.le_refl _,fun _ _ _=>rfl⟩
theorem Side.trans {base B:Nat} {a b c:World} (h:Side base B a b) (k:Side base B b c):Side base B a c:=
 ⟨k.os.trans h.os,k.output.trans h.output,Nat.le_trans h.size k.size,fun i hi hl=>(k.block i (by have:=h.size;omega) hl).trans (h.block i hi hl)⟩
theorem Side.of_below {base B:Nat} {w w':World} (h:Below w.heap.size w w'):Side base B w w':=⟨h.os,h.output,h.size,fun k hk _=>h.block k hk⟩
theorem Side.drewN {base B:Nat} {w w':World} (h:Side base B w w') (n:Nat):Side base B w (w'.drewN n):=h.trans (Side.of_below (yaa (Below.refl _ _) n))
theorem Side.hold {base B:Nat} {w w':World} (h:Side base B w w'):Hold base w w':=⟨h.os,h.output,h.size,fun k hk hl=>h.block k hl (.inl hk)⟩
structure EntX (w:World) (base B:Nat) (v:Value) (vs:List Value) (ogs:List (Option Nat)) (es:List (List Int)):Prop where
 row:w.ownsRow base 25 1 v es.length vs
 len:ogs.length=es.length
 apart:∀ (i j:Nat) (g:Nat),i<j→ogs[i]?=some (some g)→ogs[j]?≠some (some g)
 low:∀ (i:Nat) (g:Nat),ogs[i]?=some (some g)→g<B
 each:∀ i (h:i<es.length),∃ u og,vs[i]?=some u∧ogs[i]?=some og∧Byt w base og u es[i]
theorem EntX.of {w:World} {base:Nat} {v:Value} {es:List (List Int)} (h:EntB w base v es):∃ vs ogs,EntX w base w.heap.size v vs ogs es:=by
 obtain⟨vs,ogs,h1,h2,h3,h4⟩:=h
 refine⟨vs,ogs,h1,h2,h3,fun i g hg=>?_,h4⟩
 obtain⟨hi,_⟩:=List.getElem?_eq_some_iff.1 hg
 obtain⟨u,og,_,hog,hB⟩:=h4 i (by omega)
 rw[hg] at hog
 injection hog with hog
 exact hB.lt g hog.symm
theorem EntX.entB {w:World} {base B:Nat} {v:Value} {vs:List Value} {ogs:List (Option Nat)} {es:List (List Int)} (h:EntX w base B v vs ogs es):EntB w base v es:=⟨vs,ogs,h.row,h.len,h.apart,h.each⟩
theorem EntX.below {w w':World} {base B:Nat} {v:Value} {vs:List Value} {ogs:List (Option Nat)} {es:List (List Int)} (h:EntX w base B v vs ogs es) (hb:∀ k,k<w.heap.size→w'.heap[k]?=w.heap[k]?):EntX w' base B v vs ogs es:=by
 refine⟨ye9 h.row (fun k hk=>hb k (yf8 h.row k hk)),h.len,h.apart,h.low,fun i hi=>?_⟩
 obtain⟨u,og,hu,hog,hB⟩:=h.each i hi
 exact⟨u,og,hu,hog,hB.keep (fun g hg=>hb g (hB.lt g hg))⟩
theorem Byt.kept {w w':World} {base:Nat} {og:Option Nat} {v:Value} {xs:List Int} {may:MemPlace→Prop} (h:Byt w base og v xs) (hk:w.keptBut w' may) (hm:∀ g j,og=some g→j<xs.length→¬ may (.cell g j)):Byt w' base og v xs:=by
 rcases h with h|⟨g,cap,cells,m,h1,h2,h3,h4,hh,h6,h7,hx,hcell⟩
 ·exact .inl h
 ·have hlt:=lt_of_block hh
  have hb:=hk.2.2 g hlt
  rw[hh] at hb
  cases hw:w'.heap[g]? with
  | none=>rw[hw] at hb;simp at hb
  | some o =>
   rw[hw] at hb
   cases o with
   | cells c t fr =>
    simp only at hb
    obtain⟨rfl,rfl,hs,hc⟩:=hb
    refine .inr ⟨g,cap,c,_,h1,h2,h3,h4,hw,by omega,h7,hx,fun i hi=>?_⟩
    rw[hc i (hm g i h1 hi)]
    exact hcell i hi
   | _=>simp at hb
theorem EntX.at {w:World} {base B:Nat} {ad:Addr} {n c:Nat} {vs:List Value} {ogs:List (Option Nat)} {es:List (List Int)} (h:EntX w base B (.slice (some ad) n c) vs ogs es) {i:Nat} (hi:i<es.length) :
  ∃ A' c' og,vs[i]?=some (.slice A' es[i].length c')∧ogs[i]?=some og∧Byt w base og (.slice A' es[i].length c') es[i]∧es[i].length≤c'∧Kd.C (Kd.int .u8) w A' es[i].length es[i]∧w.cell? (ad.add i)=some (.slice A' es[i].length c'):=by
 obtain⟨u,og,hu,hog,hB⟩:=h.each i hi
 obtain⟨A',c',rfl,hc',hC'⟩:=hB.reads
 refine⟨A',c',og,hu,hog,hB,hc',hC',?_⟩
 have h1:=h.row
 have hn:n=es.length:=by
  rcases h1.2 with ⟨h,_⟩|⟨g',cap',cur,h,_⟩
  ·cases h
  ·injection h
 subst hn
 rcases h1.2 with ⟨h',_⟩|⟨g,cap,cur,h',hg,hcur,_⟩
 ·cases h'
 ·injection h' with h' _ _
  injection h' with h'
  subst h'
  rw[yc8]
  exact(h1.cellAt (g:=g) i (by omega)).trans hu
end Go.Proofs.YteeikgjjgfdjgaaGreat.PK
end
section
namespace Go.Proofs.YteeikgjjgfdjgaaGreat.PK
open Go.RowKit Go.Proofs.YteeikgjjgfdjgaaGreatW.PrintWords Go.Proofs.YteeikgjjgfdjgaaGreatW.PrintLast Go.Proofs.YteeikgjjgfdjgaaGreatW.PrintMore
set_option linter.unusedVariables false
set_option linter.unusedSimpArgs false
def yf6 (l:List Cel):Int:=if ∃ c∈l,c.f0=true then 1 else 0
theorem someN_yes {cs:List Cel} {i:Nat} (hi:i<cs.length) (h:cs[i].f0=true):yf6 (cs.take (i+1))=1:=by
 unfold yf6
 rw[if_pos ⟨cs[i],by rw[← ya9 cs i hi];exact List.mem_append_right _ (List.mem_singleton.2 rfl),h⟩]
theorem someN_no {cs:List Cel} {i:Nat} (hi:i<cs.length) (h:¬ cs[i].f0=true):yf6 (cs.take (i+1))=yf6 (cs.take i):=by
 unfold yf6
 have:(∃ c∈cs.take (i+1),c.f0=true)↔(∃ c∈cs.take i,c.f0=true):=by
  rw[← ya9 cs i hi]
  constructor
  ·rintro⟨c,hc,e⟩
   rcases List.mem_append.1 hc with hc|hc
   ·exact⟨c,hc,e⟩
   ·obtain rfl:=List.mem_singleton.1 hc
    exact absurd e h
  ·rintro⟨c,hc,e⟩
   exact⟨c,List.mem_append_left _ hc,e⟩
 by_cases hh:∃ c∈cs.take i,c.f0=true
 ·rw[if_pos hh,if_pos (this.2 hh)]
 ·rw[if_neg hh,if_neg (fun e=>hh (this.1 e))]
theorem yq1 {codec:Int} {cs:List Cel} (h:yf6 cs=1):yej codec cs=((codec::vput cs.length)++[yf6 cs])++yde 1 (cs.map yce):=by
 have hh:∃ c∈cs,c.f0=true:=Classical.byContradiction fun hn=>by unfold yf6 at h;rw[if_neg hn] at h;exact absurd h (by decide)
 unfold yej ye4
 rw[if_pos hh,h]
 simp
theorem yqd {codec:Int} {cs:List Cel} (h:yf6 cs≠1):yej codec cs=(codec::vput cs.length)++[yf6 cs]∧yf6 cs=0:=by
 have hh:¬ ∃ c∈cs,c.f0=true:=fun hn=>by unfold yf6 at h;rw[if_pos hn] at h;exact absurd rfl h
 unfold yej ye4 yf6
 rw[if_neg hh,if_neg hh]
 simp
theorem lit_R (W:World) (e:TypeId) (k:IntKind) (xs:List Int) (base:Nat) (hb:base≤W.heap.size) (hl:xs.length≤1000):Kd.R (Kd.int k) e (W.alloc (.cells (xs.map (Value.int k)).toArray e)) base (fun _=>True) (.slice (some ⟨W.heap.size,0,none⟩) xs.length xs.length) xs:=
 Kd.R_of_own (own_lit W base e k xs hb (by omega)) (fun _ _=>trivial)
set_option maxRecDepth 100000 in
set_option maxHeartbeats 2000000 in
theorem yqm (kind codec:Int) (A:Option Addr) (c:Nat) (cs:List Cel) (w:World) (hf:Fine kind cs) (hfit:ycn kind codec) (h:Kd.C k53 w A cs.length cs) (hc:cs.length≤c) :
  Calls Tryz.prog 34 #[.int .i64 kind,.int .i64 codec,.slice A cs.length c] w (yfp w (yc6 kind codec cs).1 (yc6 kind codec cs).2):=by
 have hcl:=hf.len
 have hcd:=yjd hfit
 have hw8:IntKind.u8.wrap codec=codec:=by rw[IntKind.wrap_u8];omega
 have hwl:IntKind.u64.wrap (cs.length:Int)=(cs.length:Int):=wraps_u64 _ (by omega) (by omega)
 obtain⟨kp,hkp⟩:=(ye7 cs.length (by omega)).ex
 have hvl:=ya1 cs.length
 have hbf:=ykr hf hfit
 have hhf:=ykc hf.len hfit
 have hpk:Ev (fun k=>yae.f k ((1:Nat):Int) (cs.map yce)) (yde 1 (cs.map yce),0):=rpack (by decide) (yig cs) (by rw[List.length_map];exact hcl)
 obtain⟨kk,hkk⟩:=hpk.ex
 have hRB:=fun(w2:World) (hb:Below w.heap.size w w2)=>rbody_any kind codec A c cs w2 hf hfit (Kd.C_below h hb) hc
 have HC:=Lib.hid h;have HKP:=Lib.hid hkp;have HBF:=Lib.hid hbf;have HHF:=Lib.hid hhf;have HKK:=Lib.hid hkk;have HRB:=Lib.hid hRB;have HVL:=Lib.hid hvl
 clear h hf hfit hkp hbf hhf hpk hkk hRB hvl
 go_enter Tryz.func34,Tryz.ntmps34
 go_upto_region 2 with (fail)
 have R8:=Lib.hid (lit_R w 5 .u8 [codec] w.heap.size (Nat.le_refl _) (by simp))
 have B1:=Lib.hid (yaj (Below.refl w.heap.size w) (.cells #[.int .u8 codec] 5))
 have hsz:w.heap.size<(w.alloc (.cells #[.int .u8 codec] 5)).heap.size:=by simp
 have HSZ:=Lib.hid hsz
 clear hsz
 have R8':RowKit.Hid (Kd.R (Kd.int .u8) 5 (w.alloc (.cells #[.int .u8 codec] 5)) w.heap.size (fun _=>True) (.slice (some ⟨w.heap.size,0,none⟩) 1 1) [codec]):=Lib.hid R8.out
 clear R8
 generalize w.alloc (.cells #[.int .u8 codec] 5)=w1 at *
 have hx8:([codec]:List Int).length+(vput cs.length).length≤140737488355328:=by have:=HVL.out;simp;omega
 have hV:[codec]++vput cs.length=codec::vput cs.length:=rfl
 generalize hvv:vput cs.length=vl at *
 have HVV:=Lib.hid hvv;have HX8:=Lib.hid hx8;have HV:=Lib.hid hV
 clear hvv hx8 hV
 go_upto_region 3 with (first
  | (go_at_call 58;refine(yad.calls kp _ _ _ HKP.out).mono ?_;rintro e w2 ⟨v2,rfl,hR2,hb2⟩;have MU:=Lib.hid hR2;have M8:=Lib.hid (Kd.R_below R8'.out hb2);have MB:=Lib.hid (yac B1.out B1.out.size hb2);clear hR2 hb2)
  | (go_at_call 57;refine(yhb M8.out MB.out (fun k hk=>(by have h1:=HSZ.out;have h2:w.heap.size=k:=(by simpa [Value.ownBlock] using hk);omega)) MU.out HX8.out).mono ?_;rintro e w3 ⟨v3,rfl,hR3,hb3,_⟩;have N8:=Lib.hid hR3;have NB:=Lib.hid hb3;clear hR3 hb3))
 have E9:=yk0 (Kd.int .u64) w3 63 w.heap.size NB.out.size
 go_upto_region 5 with (fail)
 have N8':RowKit.Hid (Kd.R (Kd.int .u8) 5 (w3.alloc (.cells #[] 63)) w.heap.size (fun _=>True) v3 (codec::vl)):=Lib.hid (by rw[← HV.out];exact Kd.R_alloc N8.out _)
 have NB':=Lib.hid (yaj NB.out (.cells #[] 63))
 have E9':=Lib.hid E9
 clear E9 N8 NB
 have hg9:RowKit.Hid (∃ v9,v9=Value.slice (some ⟨w3.heap.size,0,none⟩) 0 0):=Lib.hid ⟨_,rfl⟩
 generalize w3.alloc (.cells #[] 63)=w4 at *
 clear R8' B1 HSZ M8 MB MU hg9
 go_wp2
 go_loopw [9,10,11,12] (fun v9 v10 vi _ wq=>∃ i:Nat,i≤cs.length∧vi=.int .i64 i∧v10=.int .u8 (yf6 (cs.take i))∧RowKit.Hid (Kd.R (Kd.int .u64) 63 wq w.heap.size (fun _=>True) v9 ((cs.take i).map yce))∧RowKit.Hid (Kd.R (Kd.int .u8) 5 wq w.heap.size (fun _=>True) v3 (codec::vl))∧RowKit.Hid (Below w.heap.size w wq)) (fun _ _ vi _ _=>cs.length-(intOf vi).toNat)
 case atStart=>exact⟨0,Nat.zero_le _,rfl,rfl,Lib.hid (by rw[List.take_zero];exact E9'.out),N8',NB'⟩
 case round =>
  obtain⟨i,hi9,rfl,rfl,H9,H8,HB⟩:=hrel
  clear E9' N8' NB'
  by_cases hlt:i<cs.length
  ·obtain⟨ad,A2,c2,rfl,hx0,hx1,hx2,hl2,hC2⟩:=ye0 HC.out (i:Int) (by omega) (by omega)
   rw[ygb hlt,Int.toNat_natCast] at hx0
   replace hx0:=(HB.out.cell (World.block_lt_of_cell? w _ hx0)).trans hx0
   clear hx1 hx2 hl2 hC2
   have hml:((cs.take i).map yce).length≤4096:=by rw[List.length_map,List.length_take];omega
   have HML:=Lib.hid hml
   have hmk:(cs.take (i+1)).map yce=(cs.take i).map yce++[yce cs[i]]:=by rw[← ya9 cs i hlt,List.map_append];rfl
   clear hml
   by_cases h0:cs[i].f0=true
   ·have hsm:=someN_yes hlt h0
    have hm1:yce cs[i]=1:=by unfold yce;rw[if_pos h0]
    rw[hm1] at hmk
    rw[h0] at hx0
    have HMK:=Lib.hid hmk;have HSM:=Lib.hid hsm;have HLT:=Lib.hid hlt
    clear hmk hsm hm1 h0 hlt
    generalize (cs.take i).map yce=us at *
    go_wp2_with (at_builtin;refine Kd.R_append (Kd.int .u64) (w0:=w) w.heap.size rfl (.tmp 36) (.tmp 38) 66 63 (.int .u64 0) 8 rfl Tryz.underlying66 yg6 rfl (by decide) (by decide) _ us 1 [.int .u64 1] (fun _=>True) (fun _=>False) rfl rfl rfl (fun _ hk=>hk.elim) (fun _ _=>trivial) H9.out HB.out HB.out.size (by have:=HML.out;omega) ?_;intro v7 w7 hR7 hb7 hg7 hat7;have J9:=Lib.hid hR7;have J8:=Lib.hid (Kd.R_over' H8.out (Kd.R_typed H9.out) (by decide) hg7);have JB:=Lib.hid hb7;clear hR7 hb7 hg7 hat7)
    go_roundw
    case rel=>exact⟨i+1,HLT.out,by go_num,by rw[HSM.out],Lib.hid (by rw[HMK.out];exact J9.out),J8,JB⟩
    case measure=>have:=HLT.out;simp [intOf];omega
   ·have hsm:=someN_no hlt h0
    have hm1:yce cs[i]=0:=by unfold yce;rw[if_neg h0]
    rw[hm1] at hmk
    have h0f:cs[i].f0=false:=by simpa using h0
    rw[h0f] at hx0
    have HMK:=Lib.hid hmk;have HSM:=Lib.hid hsm;have HLT:=Lib.hid hlt
    clear hmk hsm hm1 h0 h0f hlt
    generalize (cs.take i).map yce=us at *
    go_wp2_with (at_builtin;refine Kd.R_append (Kd.int .u64) (w0:=w) w.heap.size rfl (.tmp 36) (.tmp 38) 66 63 (.int .u64 0) 8 rfl Tryz.underlying66 yg6 rfl (by decide) (by decide) _ us 0 [.int .u64 0] (fun _=>True) (fun _=>False) rfl rfl rfl (fun _ hk=>hk.elim) (fun _ _=>trivial) H9.out HB.out HB.out.size (by have:=HML.out;omega) ?_;intro v7 w7 hR7 hb7 hg7 hat7;have J9:=Lib.hid hR7;have J8:=Lib.hid (Kd.R_over' H8.out (Kd.R_typed H9.out) (by decide) hg7);have JB:=Lib.hid hb7;clear hR7 hb7 hg7 hat7)
    go_roundw
    case rel=>exact⟨i+1,HLT.out,by go_num,by rw[HSM.out],Lib.hid (by rw[HMK.out];exact J9.out),J8,JB⟩
    case measure=>have:=HLT.out;simp [intOf];omega
  ·obtain rfl:i=cs.length:=by omega
   have hta:cs.take cs.length=cs:=List.take_length
   rw[hta] at H9 ⊢
   clear hta
   have hx9:(codec::vl).length≤1000000:=by have:=HX8.out;have h2:=HVL.out;rw[List.length_cons];omega
   have HX9:=Lib.hid hx9
   have hW:yc6 kind codec cs=if 65000<(yej codec cs).length+(ycg kind codec cs).1.length+4 then ([],4) else (ye5 (yej codec cs++(ycg kind codec cs).1),0):=by
    unfold yc6
    rw[if_neg (fun e=>e HBF.out.2.2)]
   have hW2:∃ X Bd,X=yej codec cs∧Bd=(ycg kind codec cs).1:=⟨_,_,rfl,rfl⟩
   obtain⟨X,Bd,hX,hBd⟩:=hW2
   rw[← hX,← hBd] at hW
   rw[← hX] at HHF
   rw[← hBd] at HBF HRB
   have HW:=Lib.hid hW
   clear hx9 hW hBd
   by_cases hs1:yf6 cs=1
   ·have hXe:X=((codec::vl)++[(1:Int)])++yde 1 (cs.map yce):=by rw[hX,yq1 hs1,hs1,HVV.out]
    rw[hs1]
    clear hX hs1
    have HXE:=Lib.hid hXe
    clear hXe
    generalize cs.map yce=us at *
    have hpl:((codec::vl)++[(1:Int)]).length+(yde 1 us).length≤140737488355328:=by have h1:=HHF.out.2;rw[HXE.out,List.length_append] at h1;omega
    have HPL:=Lib.hid hpl
    clear hpl
    go_upto_region 14 with (at_builtin;refine Kd.R_append (Kd.int .u8) (w0:=w) w.heap.size rfl (.tmp 40) (.tmp 42) 25 5 (.int .u8 0) 1 rfl Tryz.underlying25 yb6 rfl (by decide) (by decide) _ (codec::vl) 1 [.int .u8 1] (fun _=>True) (fun _=>False) rfl rfl rfl (fun _ hk=>hk.elim) (fun _ _=>trivial) H8.out HB.out HB.out.size (by have:=HX9.out;omega) ?_;intro v7 w7 hR7 hb7 hg7 hat7;have J8:=Lib.hid hR7;have J9:=Lib.hid (Kd.R_over' H9.out (Kd.R_typed H8.out) (by decide) hg7);have JB:=Lib.hid hb7;clear hR7 hb7 hg7 hat7)
    obtain⟨A9,c9,rfl,hc9,hC9⟩:=Kd.R_reads J9.out
    have HC9:=Lib.hid hC9
    clear hC9
    go_upto_region 17 with (first
     | (go_at_call 59;refine(yae.calls kk 1 A9 c9 us _ 0 _ HC9.out hc9 HKK.out).mono ?_;rintro e w8 ⟨v8p,rfl,hR8,hb8⟩;have T8:=Lib.hid (Kd.R_below J8.out hb8);have TB:=Lib.hid (yac JB.out JB.out.size hb8);have TV:=Lib.hid (Kd.R_lt J8.out);have TU:=Lib.hid hR8;clear hR8 hb8)
     | (go_at_call 57;refine(yhb T8.out TB.out TV.out TU.out HPL.out).mono ?_;rintro e w11 ⟨v11,rfl,hR11,hb11,_⟩;have H8x:RowKit.Hid (Kd.R (Kd.int .u8) 5 w11 w.heap.size (fun _=>True) v11 X):=Lib.hid (by rw[HXE.out];exact hR11);have HBx:=Lib.hid hb11;clear hR11 hb11))
    clear T8 TB TV TU J8 J9 JB
    have hbl:X.length+Bd.length≤140737488355328:=by have h1:=HHF.out.2;have h2:=HBF.out.2.1;omega
    have HBL:=Lib.hid hbl
    clear hbl
    go_upto_region 18 with (first
     | (go_at_call 60;refine(HRB.out _ HBx.out).mono ?_;rintro e w9 ⟨v9b,rfl,hR9,hb9⟩;have T8:=Lib.hid (Kd.R_below H8x.out hb9);have TB:=Lib.hid (yac HBx.out HBx.out.size hb9);have TV:=Lib.hid (Kd.R_lt H8x.out);have TU:=Lib.hid hR9;clear hR9 hb9)
     | (go_at_call 57;refine(yhb T8.out TB.out TV.out TU.out HBL.out).mono ?_;rintro e w10 ⟨v10b,rfl,hR10,hb10,_⟩;have F8:=Lib.hid hR10;have FB:=Lib.hid hb10;clear hR10 hb10))
    have hyb:Bys (X++Bd):=HHF.out.1.append HBF.out.1
    have hyl:(X++Bd).length=X.length+Bd.length:=List.length_append
    have hXX:=HW.out
    clear T8 TB TV TU H8x HBx
    generalize X++Bd=Y at *
    obtain⟨A10,c10,rfl,hc10,hC10⟩:=Kd.R_reads F8.out
    have hyl2:Y.length≤2000000:=by have h1:=HHF.out.2;have h2:=HBF.out.2.1;omega
    have HYL:=Lib.hid hyl;have HC10:=Lib.hid hC10;have HYB:=Lib.hid hyb
    clear hyl hC10 hyb
    by_cases hg:65000<Y.length+4
    ·have hgi:(65000:Int)<(Y.length:Int)+4:=by omega
     rw[if_pos (by have:=HYL.out;omega)] at hXX
     have HXX:=Lib.hid hXX
     clear hXX hg
     go_wp2
     go_ret2
     rw[HXX.out]
     exact⟨_,rfl,Kd.R_nil _ _ _ _ _,FB.out⟩
    ·have hgi:decide ((65000:Int)<(Y.length:Int)+4)=false:=by simp;omega
     rw[if_neg (by have:=HYL.out;omega)] at hXX
     have HXX:=Lib.hid hXX
     obtain⟨kz,hkz⟩:=(ylk HYB.out (by omega)).ex
     have HKZ:=Lib.hid hkz
     clear hXX hg hkz
     go_wp2_with (go_at_call 26;refine(yem.calls kz A10 c10 Y _ _ HC10.out hc10 HKZ.out).mono ?_;rintro e w12 ⟨v12,rfl,hR12,hb12⟩)
     go_ret2
     rw[HXX.out]
     exact⟨_,rfl,Kd.R_lower hR12 FB.out.size,yac FB.out FB.out.size hb12⟩
   ·obtain⟨hh1,hh0⟩:=yqd (codec:=codec) hs1
    have hXe:X=(codec::vl)++[(0:Int)]:=by rw[hX,hh1,hh0,HVV.out]
    rw[hh0]
    clear hX hs1 hh1 hh0
    have HXE:=Lib.hid hXe
    clear hXe
    generalize cs.map yce=us at *
    go_upto_region 17 with (at_builtin;refine Kd.R_append (Kd.int .u8) (w0:=w) w.heap.size rfl (.tmp 40) (.tmp 42) 25 5 (.int .u8 0) 1 rfl Tryz.underlying25 yb6 rfl (by decide) (by decide) _ (codec::vl) 0 [.int .u8 0] (fun _=>True) (fun _=>False) rfl rfl rfl (fun _ hk=>hk.elim) (fun _ _=>trivial) H8.out HB.out HB.out.size (by have:=HX9.out;omega) ?_;intro v7 w7 hR7 hb7 hg7 hat7;have J8:=Lib.hid hR7;have J9:=Lib.hid (Kd.R_over' H9.out (Kd.R_typed H8.out) (by decide) hg7);have JB:=Lib.hid hb7;clear hR7 hb7 hg7 hat7)
    have H8x:RowKit.Hid (Kd.R (Kd.int .u8) 5 _ w.heap.size (fun _=>True) _ X):=Lib.hid (by rw[HXE.out];exact J8.out)
    have HBx:=JB
    have hbl:X.length+Bd.length≤140737488355328:=by have h1:=HHF.out.2;have h2:=HBF.out.2.1;omega
    have HBL:=Lib.hid hbl
    clear hbl
    go_upto_region 18 with (first
     | (go_at_call 60;refine(HRB.out _ HBx.out).mono ?_;rintro e w9 ⟨v9b,rfl,hR9,hb9⟩;have T8:=Lib.hid (Kd.R_below H8x.out hb9);have TB:=Lib.hid (yac HBx.out HBx.out.size hb9);have TV:=Lib.hid (Kd.R_lt H8x.out);have TU:=Lib.hid hR9;clear hR9 hb9)
     | (go_at_call 57;refine(yhb T8.out TB.out TV.out TU.out HBL.out).mono ?_;rintro e w10 ⟨v10b,rfl,hR10,hb10,_⟩;have F8:=Lib.hid hR10;have FB:=Lib.hid hb10;clear hR10 hb10))
    have hyb:Bys (X++Bd):=HHF.out.1.append HBF.out.1
    have hyl:(X++Bd).length=X.length+Bd.length:=List.length_append
    have hXX:=HW.out
    clear T8 TB TV TU H8x HBx
    generalize X++Bd=Y at *
    obtain⟨A10,c10,rfl,hc10,hC10⟩:=Kd.R_reads F8.out
    have hyl2:Y.length≤2000000:=by have h1:=HHF.out.2;have h2:=HBF.out.2.1;omega
    have HYL:=Lib.hid hyl;have HC10:=Lib.hid hC10;have HYB:=Lib.hid hyb
    clear hyl hC10 hyb
    by_cases hg:65000<Y.length+4
    ·have hgi:(65000:Int)<(Y.length:Int)+4:=by omega
     rw[if_pos (by have:=HYL.out;omega)] at hXX
     have HXX:=Lib.hid hXX
     clear hXX hg
     go_wp2
     go_ret2
     rw[HXX.out]
     exact⟨_,rfl,Kd.R_nil _ _ _ _ _,FB.out⟩
    ·have hgi:decide ((65000:Int)<(Y.length:Int)+4)=false:=by simp;omega
     rw[if_neg (by have:=HYL.out;omega)] at hXX
     have HXX:=Lib.hid hXX
     obtain⟨kz,hkz⟩:=(ylk HYB.out (by omega)).ex
     have HKZ:=Lib.hid hkz
     clear hXX hg hkz
     go_wp2_with (go_at_call 26;refine(yem.calls kz A10 c10 Y _ _ HC10.out hc10 HKZ.out).mono ?_;rintro e w12 ⟨v12,rfl,hR12,hb12⟩)
     go_ret2
     rw[HXX.out]
     exact⟨_,rfl,Kd.R_lower hR12 FB.out.size,yac FB.out FB.out.size hb12⟩
set_option maxRecDepth 100000 in
set_option maxHeartbeats 1000000 in
theorem renc_any (kind codec:Int) (A:Option Addr) (c:Nat) (cs:List Cel) (w:World) (hok:∀ c∈cs,yew c) (h:Kd.C k53 w A cs.length cs) (hc:cs.length≤c) (hl:cs.length≤140737488355328) :
  Calls Tryz.prog 12 #[.int .i64 kind,.int .i64 codec,.slice A cs.length c] w (yfp w (ydc kind codec cs).1 (ydc kind codec cs).2):=by
 unfold ydc
 by_cases h1:kind<1∨8<kind
 ·rw[if_pos h1]
  clear h hok
  rcases h1 with h1|h1
  ·go_enter Tryz.func12,Tryz.ntmps12
   go_wp2
   go_ret2
   exact⟨_,rfl,Kd.R_nil _ _ _ _ _,Below.refl _ _⟩
  ·have h2:decide (kind<1)=false:=by simp;omega
   go_enter Tryz.func12,Tryz.ntmps12
   go_wp2
   go_ret2
   exact⟨_,rfl,Kd.R_nil _ _ _ _ _,Below.refl _ _⟩
 rw[if_neg h1]
 have d1:decide (kind<1)=false:=by simp;omega
 have d8:decide (8<kind)=false:=by simp;omega
 have hfit:=rfits_law (kind:=kind) ⟨by omega,by omega⟩ codec
 by_cases h2:ycn kind codec
 ·rw[if_neg (by simpa using h2)]
  rw[decide_eq_true h2] at hfit
  obtain⟨kc,hkc⟩:=(yqp (kind:=kind) hl (fun c hc=>(hok c hc).2.2)).ex
  have HF:=Lib.hid hfit;have HC:=Lib.hid h
  by_cases h3:ycq kind cs=0
  ·have hf:=ykv h1 h3 hok
   have hw:=fun(w2:World) (hb:Below w.heap.size w w2)=>yqm kind codec A c cs w2 hf h2 (Kd.C_below h hb) hc
   rw[if_neg (by simpa using h3)]
   rw[h3] at hkc
   have HW:=Lib.hid hw;have HKC:=Lib.hid hkc
   clear hfit hw hf h3 h2 h1 h hok hkc
   generalize yc6 kind codec cs=r at *
   go_enter Tryz.func12,Tryz.ntmps12
   go_wp2_with (first
    | (go_at_call 32;refine(yen.calls kind codec true _ HF.out).mono ?_;rintro e w2 ⟨rfl,⟨m2,rfl⟩⟩)
    | (go_at_call 33;refine(ybw.calls kc kind A c cs 0 _ (Kd.C_drewN HC.out _) hc HKC.out).mono ?_;rintro e w3 ⟨rfl,hb3⟩;have hb3':Below w.heap.size w w3:=(fun(hx:Below w.heap.size w _)=>yac hx hx.size hb3) (by repeat (first|exact Below.refl _ _|apply yaa)))
    | (go_at_call 34;refine(HW.out _ hb3').mono ?_;rintro e w4 ⟨v4,rfl,hR4,hb4⟩))
   go_ret2
   exact⟨_,rfl,Kd.R_lower hR4 hb3'.size,yac hb3' hb3'.size hb4⟩
  ·rw[if_pos h3]
   have HKC:=Lib.hid hkc
   generalize ycq kind cs=r at *
   have d3:decide (r=0)=false:=by simpa using h3
   have d4:(r == 0)=false:=by simpa using h3
   clear hfit h2 h1 h hok hkc
   go_enter Tryz.func12,Tryz.ntmps12
   go_wp2_with (first
    | (go_at_call 32;refine(yen.calls kind codec true _ HF.out).mono ?_;rintro e w2 ⟨rfl,⟨m2,rfl⟩⟩)
    | (go_at_call 33;refine(ybw.calls kc kind A c cs r _ (Kd.C_drewN HC.out _) hc HKC.out).mono ?_;rintro e w3 ⟨rfl,hb3⟩;have hb3':Below w.heap.size w w3:=(fun(hx:Below w.heap.size w _)=>yac hx hx.size hb3) (by repeat (first|exact Below.refl _ _|apply yaa))))
   go_ret2
   exact⟨_,rfl,Kd.R_nil _ _ _ _ _,hb3'⟩
 ·rw[if_pos (by simpa using h2)]
  rw[decide_eq_false h2] at hfit
  have HF:=Lib.hid hfit
  clear hfit h2 h1 h hok
  go_enter Tryz.func12,Tryz.ntmps12
  go_wp2_with (go_at_call 32;refine(yen.calls kind codec false _ HF.out).mono ?_;rintro e w2 ⟨rfl,⟨m2,rfl⟩⟩)
  go_ret2
  exact⟨_,rfl,Kd.R_nil _ _ _ _ _,by repeat (first|exact Below.refl _ _|apply yaa)⟩
end Go.Proofs.YteeikgjjgfdjgaaGreat.PK
end
section
namespace Go.Proofs.YteeikgjjgfdjgaaGreat.PK
open Go.ChangeShapes Go.WideShapes Go.ChangeAt Go.RowKit Go.Deep Go.Proofs.YteeikgjjgfdjgaaGreatW.PrintWords
set_option linter.unusedVariables false
set_option linter.unusedSimpArgs false
theorem ynj:reachBytes=140737488351232:=by decide
theorem list_of {α:Type} {Q:Nat→α→Prop}:∀ n,(∀ i,i<n→∃ y,Q i y)→∃ l:List α,l.length=n∧∀ i y,l[i]?=some y→Q i y
 | 0,_=>⟨[],rfl,fun i y h=>(by simp at h)⟩
 | n+1,h=>by
  obtain⟨l,h1,h2⟩:=list_of n (fun i hi=>h i (by omega))
  obtain⟨y,hy⟩:=h n (by omega)
  refine⟨l++[y],by simp [h1],fun i z hz=>?_⟩
  by_cases hi:i<n
  ·rw[List.getElem?_append_left (by omega)] at hz
   exact h2 i z hz
  ·have:i=n:=by
    have:=(List.getElem?_eq_some_iff.1 hz).1
    simp [h1] at this
    omega
   subst this
   rw[List.getElem?_append_right (by omega),h1,Nat.sub_self] at hz
   simp at hz
   exact hz▸hy
section
variable {P:Program} {W:World}
def yf3 (P:Program) (W:World) {α:Type} (t:TypeId) (k:Kd α) (G:α→Prop):Prop:=
 ∀ (H:Type) (enc:TypeId×Value→H) (fuel:Nat) (cs:List Value) (x:DataW H×List MemPlace),DataW.trod enc P W 0 (fun _=>true) true fuel t cs=some x→(x.1.weights P t).all (·≤reachBytes)=true→∃ a,k.K W a cs∧G a
theorem yf3.imp {α:Type} {t:TypeId} {k:Kd α} {G G':α→Prop} (h:yf3 P W t k G) (hi:∀ a,G a→G' a):yf3 P W t k G':=fun H enc fuel cs x hx hw=>by
 obtain⟨a,h1,h2⟩:=h H enc fuel cs x hx hw
 exact⟨a,h1,hi a h2⟩
theorem opens_int {t:TypeId} {q:IntKind} (ht:P.underlying t=some (.int q)):yf3 P W t (Kd.int q) (fun n=>(Lit.int q n).wf=true):=by
 intro H enc fuel cs x hx hw
 cases fuel with
 | zero=>simp [DataW.trod] at hx
 | succ fuel =>
  unfold DataW.trod at hx
  rw[ht] at hx
  split at hx <;> simp_all
  rename_i k' n h1
  obtain⟨⟨rfl,h2⟩,_⟩:=hx
  exact⟨n,rfl,h2⟩
theorem yiv {H:Type} {e:TypeId}:∀ {l:List (DataW H)} {d:DataW H},d∈l→∀ n∈d.weights P e,n∈DataW.weightsAll P e l
 | [],d,hd,n,hn=>by cases hd
 | d0::l,d,hd,n,hn=>by
  rw[DataW.weightsAll,List.mem_append]
  rcases List.mem_cons.1 hd with rfl|hd
  ·exact .inl hn
  ·exact .inr (yiv hd n hn)
theorem yk3 {α:Type} {t e:TypeId} {k:Kd α} {G:α→Prop} {B:Nat} (ht:P.underlying t=some (.slice e)) (hk:yf3 P W e k G) (hc:P.cellsOf e=k.sz) (hB:P.bytesOf e=B):yf3 P W t (Kd.slice e k) (fun l=>(∀ a∈l,G a)∧l.length*B≤140737488351232):=by
 intro H enc fuel cs x hx hw
 rcases open_slice ht hx with ⟨rfl,rfl⟩|⟨a,len,cap,m,n,D,Pl,rfl,_,hl,hm,hmm,rfl,hel⟩
 ·exact⟨[],⟨none,0,rfl,Nat.le_refl _,Kd.C_nil _ _⟩,⟨fun a ha=>(by cases ha),by simp⟩⟩
 ·simp only[if_true] at hmm
  subst hmm
  simp only[DataW.weights,ht,List.length_map,List.length_range,List.all_cons,Bool.and_eq_true,decide_eq_true_eq,List.all_append] at hw
  obtain⟨hw1,hw2,_⟩:=hw
  rw[hB] at hw1
  have hel':∀ i,i<len→∃ y c,c.length=k.sz∧(∀ j u,c[j]?=some u→W.cell? (a.add (i*k.sz+j))=some u)∧k.K W y c∧G y:=by
   intro i hi
   obtain⟨cs',h1,h2⟩:=hel i (by omega)
   obtain⟨_,hlen,hcell⟩:=World.cells?_some h1
   rw[hc] at hlen hcell
   obtain⟨y,hy,hG⟩:=hk H enc n cs' _ h2 (by
    rw[List.all_eq_true] at hw2 ⊢
    intro z hz
    exact hw2 z (yiv (List.mem_map.2 ⟨i,List.mem_range.2 hi,rfl⟩) z hz))
   refine⟨y,cs',hlen,fun j u hu=>?_,hy,hG⟩
   have hj:j<k.sz:=by rw[← hlen];exact(List.getElem?_eq_some_iff.1 hu).1
   have:=hcell j hj
   rw[hu] at this
   rw[← this]
   congr 1
   exact(Go.Deep.add_add _ _ _).symm
  obtain⟨l,hll,hlq⟩:=list_of len hel'
  refine⟨l,⟨some a,m,by rw[hll],by omega,⟨rfl,by rw[hll];unfold maxLen at hm;omega,fun _=>⟨a,rfl,fun j p hj=>?_⟩⟩⟩,fun y hy=>?_,?_⟩
  ·obtain⟨c,h1,h2,h3,_⟩:=hlq j p hj
   exact⟨c,h1,h3,h2⟩
  ·obtain⟨j,hj,rfl⟩:=List.mem_iff_getElem.1 hy
   exact(hlq j _ (List.getElem?_eq_getElem hj)).choose_spec.2.2.2
  ·rw[hll]
   have:=ynj
   refine Nat.le_trans (Nat.mul_le_mul_right _ (show len≤len+(m-len) by omega)) (by omega)
def ymc (P:Program) (W:World) {α:Type} (fs:List Field) (off:Nat) (k:Kd α) (G:α→Prop):Prop:=
 ∀ (H:Type) (enc:TypeId×Value→H) (n:Nat) (cs:List Value) (xs:List (DataW H×List MemPlace)),off+k.sz≤cs.length→xs.length=fs.length→(∀ (i:Nat) (f:Field),fs[i]?=some f→DataW.trod enc P W 0 (fun _=>true) true n f.type ((cs.drop f.offset).take (P.cellsOf f.type))=xs[i]?) →
  (DataW.weightsEach P (fs.map (·.type)) (xs.map (·.1))).all (·≤reachBytes)=true→∃ a,k.K W a ((cs.drop off).take k.sz)∧G a
theorem ypx {α:Type} {f:Field} {off:Nat} {k:Kd α} {G:α→Prop} (h:yf3 P W f.type k G) (ho:f.offset=off) (hc:P.cellsOf f.type=k.sz):ymc P W [f] off k G:=by
 intro H enc n cs xs hl hx hf hw
 match xs,hx with
 | [x],_ =>
  have h0:=hf 0 f rfl
  rw[ho,hc] at h0
  simp only[List.map_cons,List.map_nil,DataW.weightsEach,List.append_nil] at hw
  exact h H enc n _ x h0 hw
theorem ylc {α β:Type} {f:Field} {r:List Field} {off:Nat} {k:Kd α} {G:α→Prop} {kr:Kd β} {Gr:β→Prop} (h:yf3 P W f.type k G) (ho:f.offset=off) (hc:P.cellsOf f.type=k.sz) (hr:ymc P W r (off+k.sz) kr Gr):ymc P W (f::r) off (Kd.pair k kr) (fun p=>G p.1∧Gr p.2):=by
 intro H enc n cs xs hl hx hf hw
 match xs,hx with
 | x::xs,hx =>
  have h0:=hf 0 f rfl
  rw[ho,hc] at h0
  simp only[List.map_cons,DataW.weightsEach,List.all_append,Bool.and_eq_true] at hw
  have hsz:(Kd.pair k kr).sz=k.sz+kr.sz:=rfl
  rw[hsz] at hl ⊢
  obtain⟨a,ha,hG⟩:=h H enc n _ x h0 hw.1
  obtain⟨b,hb,hGr⟩:=hr H enc n cs xs (by omega) (by simpa using hx) (fun i g hg=>hf (i+1) g hg) hw.2
  refine⟨(a,b),⟨_,_,?_,ha,hb⟩,hG,hGr⟩
  rw[List.take_add,List.drop_drop]
theorem yn8 {α:Type} {t:TypeId} {fs:Array Field} {k:Kd α} {G:α→Prop} (ht:P.underlying t=some (.struct fs)) (hc:P.cellsOf t=k.sz) (h:ymc P W fs.toList 0 k G):yf3 P W t k G:=by
 intro H enc fuel cs x hx hw
 obtain⟨xs,n,_,rfl,hl,hlen,hf⟩:=DataW.trod_struct ht hx
 rw[hc] at hl
 simp only[DataW.weights,ht] at hw
 obtain⟨a,ha,hG⟩:=h H enc n cs xs (by omega) (by simpa using hlen) (fun i f hi=>hf i f (by simpa using hi)) hw
 rw[List.drop_zero,List.take_of_length_le (by omega)] at ha
 exact⟨a,ha,hG⟩
theorem open_var {α:Type} {H:Type} {enc:TypeId×Value→H} {t:TypeId} {k:Kd α} {G:α→Prop} (h:yf3 P W t k G) {ts:List TypeId} {ds:List (DataW H)} {j:Nat} {d:DataW H} {v:Value} {ps:List MemPlace} (hsz:(DataW.weightsEach P ts ds).all (·≤reachBytes)=true) (ht:ts[j]?=some t) (hd:ds[j]?=some d)
  (hv:DataW.Trod enc P W 0 (fun _=>true) true t v d ps):∃ a,k.K W a v.cells.toList∧G a:=by
 obtain⟨fuel,hf⟩:=hv
 refine h H enc fuel _ _ hf ?_
 rw[List.all_eq_true] at hsz ⊢
 intro n hn
 exact hsz n (DataW.weights_mem_each ht hd n hn)
theorem slice_cells {α:Type} {e:Nat} {k:Kd α} {a:List α} {p:Option Addr} {len cap:Nat} (h:(Kd.slice e k).K W a (Value.slice p len cap).cells.toList):len=a.length∧a.length≤cap∧k.C W p a.length a:=by
 obtain⟨A,c,he,hl,hC⟩:=h
 simp [Value.cells] at he
 obtain⟨rfl,rfl,rfl⟩:=he
 exact⟨rfl,hl,hC⟩
end
end Go.Proofs.YteeikgjjgfdjgaaGreat.PK
end
section
namespace Go.Proofs.YteeikgjjgfdjgaaGreat.PK
open Go.ChangeShapes Go.WideShapes Go.ChangeAt Go.RowKit Go.Deep Go.Proofs.YteeikgjjgfdjgaaGreatW.PrintWords
set_option linter.unusedVariables false
set_option linter.unusedSimpArgs false
variable {W:World}
theorem byte_wf {n:Int} (h:(Lit.int .u8 n).wf=true):0≤n∧n<256:=by
 simp only[Lit.wf,IntKind.min,IntKind.max,IntKind.signed,IntKind.bits,Bool.and_eq_true,decide_eq_true_eq] at h
 simp at h
 omega
theorem i64_wf {n:Int} (h:(Lit.int .i64 n).wf=true):I64 n:=by
 simp only[Lit.wf,IntKind.min,IntKind.max,IntKind.signed,IntKind.bits,Bool.and_eq_true,decide_eq_true_eq] at h
 simp at h
 unfold I64
 omega
theorem yqn {P:Program} {t:TypeId} (ht:P.underlying t=some .bool):yf3 P W t Kd.bool (fun _=>True):=by
 intro H enc fuel cs x hx hw
 cases fuel with
 | zero=>simp [DataW.trod] at hx
 | succ fuel =>
  unfold DataW.trod at hx
  rw[ht] at hx
  split at hx <;> simp_all
  rename_i b
  cases b
  ·exact .inl rfl
  ·exact .inr rfl
def okBytes (l:List Int):Prop:=Bys l∧l.length≤140737488351232
theorem ypa:yf3 Tryz.prog W 25 (Kd.slice 5 (Kd.int .u8)) okBytes:=
 (yk3 (B:=1) Tryz.underlying25 (opens_int Tryz.underlying5) (by kernel_rfl) (by kernel_rfl)).imp fun l h=>⟨fun x hx=>byte_wf (h.1 x hx),by have:=h.2;omega⟩
set_option maxRecDepth 100000 in
theorem ype:yf3 Tryz.prog W 53 (Kd.pair Kd.bool (Kd.pair (Kd.int .i64) (Kd.slice 5 (Kd.int .u8)))) (fun p=>True∧(Lit.int .i64 p.2.1).wf=true∧okBytes p.2.2):=
 yn8 Tryz.underlying53 (by kernel_rfl) (ylc (yqn Tryz.underlying4) rfl (by kernel_rfl) (ylc (opens_int Tryz.underlying2) rfl (by kernel_rfl) (ypx ypa rfl (by kernel_rfl))))
theorem yq5:yf3 Tryz.prog W 53 k53 yew:=fun H enc fuel cs x hx hw=>by
 obtain⟨a,h1,_,h2,h3⟩:=ype H enc fuel cs x hx hw
 exact⟨⟨a.1,a.2.1,a.2.2⟩,h1,i64_wf h2,h3.1,by have:=h3.2;show a.2.2.length≤_;omega⟩
theorem opens_cells:yf3 Tryz.prog W 22 (Kd.slice 53 k53) (fun l=>(∀ c∈l,yew c)∧l.length*40≤140737488351232):=
 yk3 Tryz.underlying22 yq5 (by kernel_rfl) (by kernel_rfl)
end Go.Proofs.YteeikgjjgfdjgaaGreat.PK
end
section
namespace Go.Proofs.YteeikgjjgfdjgaaGreat.PK
open Go.RowKit Go.Deep Go.Proofs.YteeikgjjgfdjgaaGreatW.PrintWords
set_option linter.unusedVariables false
set_option linter.unusedSimpArgs false
theorem Hold.same {W w':World} (h:Hold W.heap.size W w') {p:MemPlace} (hp:p.block<W.heap.size):W.sameAt w' p:=by
 cases p with
 | cell b o=>exact World.cell?_of_block (w:=W) (h.block b hp hp)
 | map b=>exact h.block b hp hp
theorem Hold.frame {W w':World} (h:Hold W.heap.size W w') (may:MemPlace→Prop):W.keptBut w' may:=by
 refine⟨h.os,h.output,fun i hi=>?_⟩
 rw[h.block i hi hi]
 split <;> simp_all
theorem Hold.trod {H:Type} {enc:TypeId×Value→H} {P:Program} {t:TypeId} (hl:laidOutB P=true) (hr:P.readableRec t=true) (hrow:t<P.types.size) {W W':World} {v:Value} {d:DataW H} {ps:List MemPlace}
  (h:DataW.Trod enc P W 0 (fun _=>true) true t v d ps) (hb:Hold W.heap.size W W') (hlt:∀ x∈ps,x.block<W.heap.size) :
  DataW.Trod enc P W' 0 (fun b=>decide (b<W.heap.size)) true t v d ps:=
 WideElems.Trod_stays hl hr hrow h (fun x hx=>hb.same (hlt x hx)) (fun x hx=>by simpa using hlt x hx)
end Go.Proofs.YteeikgjjgfdjgaaGreat.PK
end
section
namespace Go.Proofs.YteeikgjjgfdjgaaGreat.PK
open Go.RowKit Go.Proofs.YteeikgjjgfdjgaaGreatW.PrintWords Go.Proofs.YteeikgjjgfdjgaaGreatW.PrintLast Go.Proofs.YteeikgjjgfdjgaaGreatW.PrintMore
set_option linter.unusedVariables false
set_option linter.unusedSimpArgs false
theorem yow (l:List Int) (x:Int) (hl:l.length≤1000000):Ev (fun k=>ydw.f k l x) (decide (x∈l)):=by
 have h0:∀ n i:Nat,i+n=l.length→∃ r:Int,Ev (fun k=>ya6.l0 k l x (l.length:Int) (i:Int)) r∧(0≤r↔x∈l.drop i):=by
  intro n
  induction n with
  | zero =>
   intro i h
   refine⟨-1,Ev.step (fun k=>?_) (Ev.now _),?_⟩
   ·rw[ya6.l0,if_neg (by omega)]
   ·rw[List.drop_of_length_le (by omega)];simp
  | succ n ih =>
   intro i h
   have hi:i<l.length:=by omega
   have hrd:rd l (i:Int)=l[i]:=by unfold rd;rw[Int.toNat_natCast,List.getD_eq_getElem?_getD,List.getElem?_eq_getElem hi];rfl
   have hd:l.drop i=l[i]::l.drop (i+1):=List.drop_eq_getElem_cons hi
   by_cases h1:x=l[i]
   ·refine⟨(i:Int),Ev.step (fun k=>?_) (Ev.now _),?_⟩
    ·rw[ya6.l0,if_pos (by omega),if_pos (by omega),if_pos (by omega),hrd,if_pos h1]
    ·rw[hd,← h1];simp
   ·obtain⟨r,hr,hiff⟩:=ih (i+1) (by omega)
    refine⟨r,Ev.step (fun k=>?_) hr,?_⟩
    ·rw[ya6.l0,if_pos (by omega),if_pos (by omega),if_pos (by omega),hrd,if_neg h1,w64s i (by omega)]
    ·rw[hiff,hd,List.mem_cons]
     simp [h1]
 obtain⟨r,hr,hiff⟩:=h0 l.length 0 (by omega)
 have e:decide (x∈l)=decide (r≥0):=decide_eq_decide.2 (by rw[← List.drop_zero (l:=l),← hiff])
 rw[e]
 exact Ev.bind hr (Ev.now _)
def DistMade (w:World) (r:List Int×Int) (e:Ending) (w':World):Prop:=∃ v,e=.returned (.tuple #[v,.int .i64 r.2])∧Below w.heap.size w w'∧(r.2=0→Kd.R (Kd.int .u64) 63 w' w.heap.size (fun _=>True) v r.1)
theorem yqk {b:List Int} {p n:Nat} (hp:p≤b.length):yfs b p n=yfs (b.drop p) 0 n:=by
 have h1:∀ q,b.drop (p+q)=(b.drop p).drop q:=fun q=>by rw[List.drop_drop]
 have h2:b.getD p 0=(b.drop p).getD 0 0:=by rw[List.getD_eq_getElem?_getD,List.getD_eq_getElem?_getD,List.getElem?_drop,Nat.add_zero]
 have h3:(b.length≤p)↔((b.drop p).length≤0):=by rw[List.length_drop];omega
 unfold yfs
 rw[h1,h2,show(0:Nat)+1=1 from rfl]
 by_cases h:b.length≤p
 ·rw[if_pos h,if_pos (h3.1 h)]
 ·rw[if_neg h,if_neg (fun x=>h (h3.2 x))]
set_option maxRecDepth 100000 in
set_option maxHeartbeats 1000000 in
theorem dist_any (A:Option Addr) (c:Nat) (l:List Int) (n:Nat) (w:World) (h:Kd.C (Kd.int .u8) w A l.length l) (hc:l.length≤c) (hb:Bys l) (hl:l.length≤65000) (hn:n≤4096) :
  Calls Tryz.prog 108 #[.slice A l.length c,.int .i64 n] w (DistMade w (yfs l 0 n)):=by
 unfold yfs
 by_cases h0:l.length≤0
 ·rw[if_pos h0]
  have h00:l.length=0:=by omega
  clear h hb
  go_enter Tryz.func108,Tryz.ntmps108
  go_wp2
  go_ret2
  exact⟨_,rfl,Below.refl _ _,fun h=>absurd h (by decide)⟩
 rw[if_neg h0]
 obtain⟨ad,rfl,hx0⟩:=Kd.at_int h (0:Int) (by omega) (by omega)
 have a0:ad.add 0=ad:=by simp [Addr.add]
 rw[show rd l (0:Int)=l.getD 0 0 from rfl,show(0:Int).toNat=0 from rfl,a0] at hx0
 have hpos:(0:Int)<(l.length:Int):=by omega
 have hpos2:0<l.length:=by omega
 have hxb:0≤l.getD 0 0∧l.getD 0 0<256:=by
  rw[List.getD_eq_getElem?_getD,List.getElem?_eq_getElem (show 0<l.length by omega)]
  exact hb _ (List.getElem_mem (by omega))
 have hne:l.length≠0:=by omega
 generalize hx:l.getD 0 0=x at *
 by_cases h1:64<x
 ·rw[if_pos h1]
  clear h hb hx
  go_enter Tryz.func108,Tryz.ntmps108
  go_wp2
  go_ret2
  exact⟨_,rfl,Below.refl _ _,fun h=>absurd h (by decide)⟩
 rw[if_neg h1]
 have hx9:=fun(W:World) (hb9:Below w.heap.size w W)=>(hb9.cell (World.block_lt_of_cell? w _ hx0)).trans hx0
 have HX9:=Lib.hid hx9
 clear hx9
 obtain⟨x,rfl⟩:∃ m:Nat,x=(m:Int):=⟨x.toNat,by omega⟩
 rw[Int.toNat_natCast,show 0+1=1 from rfl]
 have hwx:IntKind.i64.wrap (x:Int)=(x:Int):=ydr _ (by omega) (by omega)
 obtain⟨B1,hcut1,hB1,hcc1⟩:=ygf (some ad) c l 1 (by omega) hc
 rw[show((1:Nat):Int)=1 from rfl] at hcut1
 obtain⟨y,hy⟩:∃ y,y=l.drop 1:=⟨_,rfl⟩
 have hyl:y.length=l.length-1:=by rw[hy,List.length_drop]
 have hyb:Bys y:=by rw[hy];exact hb.drop 1
 rw[← hy] at hB1 ⊢
 obtain⟨ku,hku⟩:=(ymq hyb (by omega) (w:=x) (m:=n) (by omega) hn).ex
 have hpu:=@yga y hyb x n
 generalize ycf y x n=ru at *
 obtain⟨us,er⟩:=ru
 simp only at hku hpu ⊢
 have hcall:=fun(w2:World) (hb2:Below w.heap.size w w2)=>yav.calls ku B1 (c-1) y (x:Int) (n:Int) us er w2 (by rw[hyl];exact Kd.C_below (hB1 w h) hb2) (by omega) hku
 rw[hyl] at hcall
 by_cases he:er=0
 ·subst he
  obtain⟨hul,huf,_⟩:=hpu rfl
  have hu64:U64s us:=fun u hu=>by
   have h1:=huf u hu
   have h2:(2:Int)^x≤2^64:=by exact_mod_cast Nat.pow_le_pow_right (by decide) (show x≤64 by omega)
   have h3:(2:Int)^64=18446744073709551616:=by decide
   constructor
   ·exact h1.1
   ·omega
  obtain⟨kw,hkw⟩:=(yki hu64 (by omega)).ex
  obtain⟨kc,hkc⟩:=(yow us 0 (by omega)).ex
  rw[if_neg (by decide)]
  have hwu:=fun(A1:Option Addr) (c1:Nat) (w2:World) (hC:Kd.C (Kd.int .u64) w2 A1 us.length us) (hc1:us.length≤c1)=>ybe.calls kw A1 c1 us _ w2 hC hc1 hkw
  have hcu:=fun(A1:Option Addr) (c1:Nat) (w2:World) (hC:Kd.C (Kd.int .u64) w2 A1 us.length us) (hc1:us.length≤c1)=>ydw.calls kc A1 c1 us 0 _ w2 hC hc1 hkc
  by_cases hw0:widS us=x
  ·rw[hw0] at hwu
   by_cases hz:(0:Int)∈us
   ·rw[if_neg (by rintro(h|h) <;> first|exact h hw0|exact h hz)]
    rw[decide_eq_true hz] at hcu
    have HCA:=Lib.hid hcall;have HWU:=Lib.hid hwu;have HCU:=Lib.hid hcu
    clear h hb hx hcall hyl hyb hB1 hpu hku hy hwu hkw hu64 huf hw0 hul hcu hkc hz
    go_enter Tryz.func108,Tryz.ntmps108
    go_upto_region 5 with (fail)
    go_region_held3 (fun w'=>w'.cell? ad=some (.int .u8 (x:Int))) (exact HX9.out _ (by repeat (first|exact hb1|exact Below.refl _ _|apply yaa|apply yar))) (first|(go_at_call 63;refine(HCA.out _ (by repeat (first|exact Below.refl _ _|apply yaa|apply yar))).mono ?_;rintro e w1 ⟨v1,rfl,hR1',hb1'⟩;have hb1:=(fun(hx:Below w.heap.size w _)=>yac hx hx.size hb1') (by repeat (first|exact Below.refl _ _|apply yaa|apply yar));have hR1:=(fun(hx:Below w.heap.size w _)=>Kd.R_lower hR1' hx.size) (by repeat (first|exact Below.refl _ _|apply yaa|apply yar));obtain⟨A1,c1,rfl,hc1,hC1⟩:=Kd.R_reads hR1;clear hR1' hb1'))
    have hx1:=HX9.out _ hb1
    go_upto_region 6 with (fail)
    go_quiet (first|(go_at_call 64;refine(HWU.out A1 c1 _ (by repeat (first|exact hC1|apply Kd.C_drewN|apply Kd.C_drew)) hc1).mono ?_;rintro e w2 ⟨rfl,⟨nd,rfl⟩⟩;(try first|exact⟨rfl,_,World.drewN_drewN _ _ _⟩|exact⟨rfl,_,Eq.trans (World.drewN_drewN _ _ _) (congrArg (World.drewN _) (Nat.add_assoc _ _ _))⟩))|(go_at_call 136;refine(HCU.out A1 c1 _ (by repeat (first|exact hC1|apply Kd.C_drewN|apply Kd.C_drew)) hc1).mono ?_;rintro e w3 ⟨rfl,⟨nd,rfl⟩⟩;(try first|exact⟨rfl,_,World.drewN_drewN _ _ _⟩|exact⟨rfl,_,Eq.trans (World.drewN_drewN _ _ _) (congrArg (World.drewN _) (Nat.add_assoc _ _ _))⟩)))
    all_goals go_wp2
    all_goals go_ret2
    all_goals exact⟨_,rfl,by repeat (first|exact hb1|apply yaa|apply yar),fun _=>by repeat (first|exact hR1|apply Kd.R_drewN|apply Kd.R_drew)⟩
   ·rw[if_pos (.inr hz)]
    rw[decide_eq_false hz] at hcu
    have HCA:=Lib.hid hcall;have HWU:=Lib.hid hwu;have HCU:=Lib.hid hcu
    clear h hb hx hcall hyl hyb hB1 hpu hku hy hwu hkw hu64 huf hw0 hul hcu hkc hz
    go_enter Tryz.func108,Tryz.ntmps108
    go_upto_region 5 with (fail)
    go_region_held3 (fun w'=>w'.cell? ad=some (.int .u8 (x:Int))) (exact HX9.out _ (by repeat (first|exact hb1|exact Below.refl _ _|apply yaa|apply yar))) (first|(go_at_call 63;refine(HCA.out _ (by repeat (first|exact Below.refl _ _|apply yaa|apply yar))).mono ?_;rintro e w1 ⟨v1,rfl,hR1',hb1'⟩;have hb1:=(fun(hx:Below w.heap.size w _)=>yac hx hx.size hb1') (by repeat (first|exact Below.refl _ _|apply yaa|apply yar));have hR1:=(fun(hx:Below w.heap.size w _)=>Kd.R_lower hR1' hx.size) (by repeat (first|exact Below.refl _ _|apply yaa|apply yar));obtain⟨A1,c1,rfl,hc1,hC1⟩:=Kd.R_reads hR1;clear hR1' hb1'))
    have hx1:=HX9.out _ hb1
    go_upto_region 6 with (fail)
    go_quiet (first|(go_at_call 64;refine(HWU.out A1 c1 _ (by repeat (first|exact hC1|apply Kd.C_drewN|apply Kd.C_drew)) hc1).mono ?_;rintro e w2 ⟨rfl,⟨nd,rfl⟩⟩;(try first|exact⟨rfl,_,World.drewN_drewN _ _ _⟩|exact⟨rfl,_,Eq.trans (World.drewN_drewN _ _ _) (congrArg (World.drewN _) (Nat.add_assoc _ _ _))⟩))|(go_at_call 136;refine(HCU.out A1 c1 _ (by repeat (first|exact hC1|apply Kd.C_drewN|apply Kd.C_drew)) hc1).mono ?_;rintro e w3 ⟨rfl,⟨nd,rfl⟩⟩;(try first|exact⟨rfl,_,World.drewN_drewN _ _ _⟩|exact⟨rfl,_,Eq.trans (World.drewN_drewN _ _ _) (congrArg (World.drewN _) (Nat.add_assoc _ _ _))⟩)))
    all_goals go_wp2
    all_goals go_ret2
    all_goals exact⟨_,rfl,by repeat (first|exact hb1|apply yaa|apply yar),fun h=>absurd h (by decide)⟩
  ·rw[if_pos (.inl hw0)]
   have hwz:decide (((widS us:Nat):Int)=(x:Int))=false:=by simp;omega
   have hwb:(((widS us:Nat):Int) == (x:Int))=false:=by simp;omega
   have hwn:(((widS us:Nat):Int) != (x:Int))=true:=by simp;omega
   have hwd:¬ (((widS us:Nat):Int)=(x:Int)):=by omega
   generalize ((widS us:Nat):Int)=W0 at *
   have HCA:=Lib.hid hcall;have HWU:=Lib.hid hwu
   clear h hb hx hcall hyl hyb hB1 hpu hku hy hwu hkw hu64 huf hw0 hul hcu hkc
   go_enter Tryz.func108,Tryz.ntmps108
   go_upto_region 5 with (fail)
   go_region_held3 (fun w'=>w'.cell? ad=some (.int .u8 (x:Int))) (exact HX9.out _ (by repeat (first|exact hb1|exact Below.refl _ _|apply yaa|apply yar))) (first|(go_at_call 63;refine(HCA.out _ (by repeat (first|exact Below.refl _ _|apply yaa|apply yar))).mono ?_;rintro e w1 ⟨v1,rfl,hR1',hb1'⟩;have hb1:=(fun(hx:Below w.heap.size w _)=>yac hx hx.size hb1') (by repeat (first|exact Below.refl _ _|apply yaa|apply yar));have hR1:=(fun(hx:Below w.heap.size w _)=>Kd.R_lower hR1' hx.size) (by repeat (first|exact Below.refl _ _|apply yaa|apply yar));obtain⟨A1,c1,rfl,hc1,hC1⟩:=Kd.R_reads hR1;clear hR1' hb1'))
   have hx1:=HX9.out _ hb1
   go_upto_region 6 with (fail)
   go_quiet (first|(go_at_call 64;refine(HWU.out A1 c1 _ (by repeat (first|exact hC1|apply Kd.C_drewN|apply Kd.C_drew)) hc1).mono ?_;rintro e w2 ⟨rfl,⟨nd,rfl⟩⟩;(try first|exact⟨rfl,_,World.drewN_drewN _ _ _⟩|exact⟨rfl,_,Eq.trans (World.drewN_drewN _ _ _) (congrArg (World.drewN _) (Nat.add_assoc _ _ _))⟩)))
   all_goals go_wp2
   all_goals go_ret2
   all_goals exact⟨_,rfl,by repeat (first|exact hb1|apply yaa|apply yar),fun h=>absurd h (by decide)⟩
 ·rw[if_pos he]
  have heb:(er == 0)=false:=by simpa using he
  have HCA:=Lib.hid hcall;have HE:=Lib.hid he
  clear h hb hx hcall hyl hyb hB1 hpu hku hy
  go_enter Tryz.func108,Tryz.ntmps108
  go_upto_region 5 with (fail)
  go_region_held3 (fun w'=>w'.cell? ad=some (.int .u8 (x:Int))) (exact HX9.out _ (by repeat (first|exact hb1|exact Below.refl _ _|apply yaa|apply yar))) (first|(go_at_call 63;refine(HCA.out _ (by repeat (first|exact Below.refl _ _|apply yaa|apply yar))).mono ?_;rintro e w1 ⟨v1,rfl,hR1',hb1'⟩;have hb1:=(fun(hx:Below w.heap.size w _)=>yac hx hx.size hb1') (by repeat (first|exact Below.refl _ _|apply yaa|apply yar));have hR1:=(fun(hx:Below w.heap.size w _)=>Kd.R_lower hR1' hx.size) (by repeat (first|exact Below.refl _ _|apply yaa|apply yar));obtain⟨A1,c1,rfl,hc1,hC1⟩:=Kd.R_reads hR1;clear hR1' hb1'))
  have hx1:=HX9.out _ hb1
  go_upto_region 6 with (fail)
  go_quiet (fail)
  all_goals go_wp2
  all_goals go_ret2
  all_goals exact⟨_,rfl,(by repeat (first|exact hb1|exact Below.refl _ _|apply yaa|apply yar)),fun h=>absurd h HE.out⟩
theorem pk_room {y:Int} (h:I64 y):IntKind.u64.wrap (9223372036854775807-IntKind.u64.wrap y)=9223372036854775807-y:=by
 obtain⟨h1,h2⟩:=h
 rw[IntKind.wrap_u64,IntKind.wrap_u64];omega
theorem pk_sum {y d:Int} (h:I64 y) (h0:0≤d) (h1:¬ 9223372036854775807-y<d):IntKind.i64.wrap (IntKind.u64.wrap (IntKind.u64.wrap y+d))=y+d:=by
 obtain⟨h2,h3⟩:=h
 have e1:IntKind.u64.wrap (IntKind.u64.wrap y+d)=(y+d)%18446744073709551616:=by rw[IntKind.wrap_u64,IntKind.wrap_u64];omega
 rw[e1,IntKind.wrap_i64]
 omega
set_option maxRecDepth 100000 in
set_option maxHeartbeats 1000000 in
theorem pkDec_any (A:Option Addr) (c:Nat) (b:List Int) (w:World) (h:Kd.C (Kd.int .u8) w A b.length b) (hc:b.length≤c) (hb:Bys b) (hl:b.length≤65000) :
  Calls Tryz.prog 68 #[.slice A b.length c] w (yot w (ye8 b).1 (ye8 b).2):=by
 have hg0:=yfo h hc hb (by omega) (Nat.zero_le _) w (Below.refl _ _)
 have hgp:=fun(p:Nat) (hp:p≤b.length)=>yfo h hc hb (by omega) hp
 have hle0:=fun h=>yeg hb (p:=0) h
 unfold ye8
 rw[show(((0:Nat):Int))=0 from rfl] at hg0
 have hlt:=fun h=>ye1 (p:=0) hb h
 generalize hv0:vget b 0=r0 at *
 obtain⟨n,q,e0⟩:=r0
 simp only at hg0 hle0 hlt ⊢
 by_cases he:e0=0
 rotate_left
 ·rw[if_pos he]
  have heb:(e0 == 0)=false:=by simpa using he
  have HG:=Lib.hid hg0
  clear h hb hgp hg0 hle0 hlt hv0
  go_enter Tryz.func68,Tryz.ntmps68
  go_wp2_with (go_at_call 39;refine(HG.out).mono ?_;rintro e w1 ⟨rfl,⟨m1,rfl⟩⟩)
  go_ret2
  exact⟨_,rfl,Kd.R_nil _ _ _ _ _,yaa (Below.refl _ _) _⟩
 subst he
 rw[if_neg (by decide)]
 have hle:=hle0 rfl
 have hn64:=hlt rfl
 by_cases hn:4096<n
 ·rw[if_pos hn]
  have hi:(4096:Int)<(n:Int):=by omega
  have HG:=Lib.hid hg0
  clear h hb hgp hg0 hle0 hlt hv0
  go_enter Tryz.func68,Tryz.ntmps68
  go_wp2_with (go_at_call 39;refine(HG.out).mono ?_;rintro e w1 ⟨rfl,⟨m1,rfl⟩⟩)
  go_ret2
  exact⟨_,rfl,Kd.R_nil _ _ _ _ _,yaa (Below.refl _ _) _⟩
 rw[if_neg hn]
 have hi:decide ((4096:Int)<(n:Int))=false:=by simp;omega
 have hi3:n≤4096:=by omega
 by_cases hz:n=0
 ·subst hz
  rw[if_pos rfl]
  have HG:=Lib.hid hg0
  by_cases hq:q<b.length
  ·rw[if_pos hq]
   have hqi:(q:Int)<(b.length:Int):=by omega
   clear h hb hgp hg0 hle0 hlt hv0
   go_enter Tryz.func68,Tryz.ntmps68
   go_wp2_with (go_at_call 39;refine(HG.out).mono ?_;rintro e w1 ⟨rfl,⟨m1,rfl⟩⟩)
   go_ret2
   exact⟨_,rfl,Kd.R_nil _ _ _ _ _,yaa (Below.refl _ _) _⟩
  ·rw[if_neg hq]
   have hqi:decide ((q:Int)<(b.length:Int))=false:=by simp;omega
   have hqn:b.length≤q:=by omega
   clear h hb hgp hg0 hle0 hlt hv0
   go_enter Tryz.func68,Tryz.ntmps68
   go_wp2_with (go_at_call 39;refine(HG.out).mono ?_;rintro e w1 ⟨rfl,⟨m1,rfl⟩⟩)
   go_ret2
   exact⟨_,rfl,Kd.R_nil _ _ _ _ _,yaa (Below.refl _ _) _⟩
 rw[if_neg hz]
 have hzb:((n:Int) == 0)=false:=by simp;omega
 have hzd:¬ (n:Int)=0:=by omega
 have hzn:0<n:=by omega
 have hg1:=hgp q hle.1
 have hl1:=fun h=>yeg hb (p:=q) h
 have hs1:=fun h=>ye1 (p:=q) hb h
 have hqle:=hle.1
 generalize vget b q=r1 at *
 obtain⟨u,q2,e1⟩:=r1
 simp only at hg1 hl1 hs1 ⊢
 by_cases he1:e1=0
 rotate_left
 ·rw[if_pos he1]
  have heb:(e1 == 0)=false:=by simpa using he1
  have HG:=Lib.hid hg0;have HG1:=Lib.hid hg1
  clear h hb hgp hg0 hle0 hlt hv0 hg1 hl1 hs1
  go_enter Tryz.func68,Tryz.ntmps68
  go_upto_region 10 with (go_at_call 39;refine(HG.out).mono ?_;rintro e w1 ⟨rfl,⟨m1,rfl⟩⟩)
  go_wp2_with (go_at_call 39;refine(HG1.out _ (by repeat (first|exact Below.refl _ _|apply yaa))).mono ?_;rintro e w2 ⟨rfl,⟨m2,rfl⟩⟩)
  go_ret2
  exact⟨_,rfl,Kd.R_nil _ _ _ _ _,by repeat (first|exact Below.refl _ _|apply yaa)⟩
 subst he1
 rw[if_neg (by decide)]
 have hq2:=(hl1 rfl).1
 have hu64:=hs1 rfl
 rw[yqk hq2]
 have hok:(yfs (b.drop q2) 0 n).2=0→∃ us w,yfs (b.drop q2) 0 n=(us,0)∧us.length=n∧w≤64∧Fit w us:=fun h=>by
  obtain⟨us,w,h1,h2,h3,_,h4,_⟩:=yn1 (hb.drop q2) h
  exact⟨us,w,h1,h2,h3,h4⟩
 obtain⟨B1,hcut1,hB1,hcc1⟩:=ygf A c b q2 hq2 hc
 have hdc:=fun(w2:World) (hb2:Below w.heap.size w w2)=>dist_any B1 (c-q2) (b.drop q2) n w2 (by rw[List.length_drop];exact hB1 w2 (Kd.C_below h hb2)) (by rw[List.length_drop];exact hcc1) (hb.drop q2) (by rw[List.length_drop];omega) hi3
 rw[List.length_drop] at hdc
 have hnw:IntKind.i64.wrap (n:Int)=(n:Int):=ydr _ (by omega) (by omega)
 have hq2i:(q2:Int)≤(b.length:Int):=by omega
 generalize yfs (b.drop q2) 0 n=dr at *
 obtain⟨us,e2⟩:=dr
 simp only at hdc hok ⊢
 have HG:=Lib.hid hg0;have HG1:=Lib.hid hg1;have HD:=Lib.hid hdc
 by_cases he2:e2=0
 rotate_left
 ·rw[if_pos he2]
  have heb:(e2 == 0)=false:=by simpa using he2
  clear h hb hgp hg0 hle0 hlt hv0 hg1 hl1 hs1 hB1 hdc hok
  go_enter Tryz.func68,Tryz.ntmps68
  go_upto_region 10 with (go_at_call 39;refine(HG.out).mono ?_;rintro e w1 ⟨rfl,⟨m1,rfl⟩⟩)
  go_upto_region 13 with (go_at_call 39;refine(HG1.out _ (by repeat (first|exact Below.refl _ _|apply yaa))).mono ?_;rintro e w2 ⟨rfl,⟨m2,rfl⟩⟩)
  go_wp2_with (go_at_call 108;refine(HD.out _ (by repeat (first|exact Below.refl _ _|apply yaa))).mono ?_;rintro e w3 ⟨v3,rfl,hb3,_⟩;have hb3':=(fun(hx:Below w.heap.size w _)=>yac hx hx.size hb3) (by repeat (first|exact Below.refl _ _|apply yaa)))
  go_ret2
  exact⟨_,rfl,Kd.R_nil _ _ _ _ _,hb3'⟩
 subst he2
 rw[if_neg (by decide)]
 obtain⟨us',wd,h1,hul,hw64,hfit⟩:=hok rfl
 obtain rfl:us=us':=congrArg Prod.fst h1
 have hun:=yjn hu64
 have hyI:=yg7 hu64
 generalize ydg u=y at *
 obtain⟨L,hL⟩:∃ L,L=us.map fun d=>y+d:=⟨_,rfl⟩
 have hLl:L.length=n:=by rw[hL,List.length_map,hul]
 have hat:∀ (k:Nat) (hk:k<us.length),¬ 9223372036854775807-y<us[k]→L[k]?=some (IntKind.i64.wrap (IntKind.u64.wrap (IntKind.u64.wrap y+us[k]))):=fun k hk hn=>by
  have h0:=(hfit _ (List.getElem_mem hk)).1
  rw[pk_sum hyI h0 hn,hL]
  simp [hk]
 have hroom:=pk_room hyI
 have hab:yh9 y us=if ∃ d∈us,9223372036854775807-y<d then ([],5) else (L,0):=by unfold yh9;rw[hL]
 obtain⟨X,hX⟩:∃ X,X=yh9 y us:=⟨_,rfl⟩
 rw[← hX] at hab ⊢
 have HAT:=Lib.hid hat;have HX:=Lib.hid hab;have HUN:=Lib.hid hun;have HRM:=Lib.hid hroom
 have hmk:=fun W=>run_make_row' (P:=Tryz.prog) 94 2 (.int .i64 0) 8 Tryz.underlying94 yku rfl .u64 .u64 n (by omega) (by omega) W
 clear h hb hgp hg0 hle0 hlt hv0 hg1 hl1 hs1 hB1 hdc hok h1 hun hyI hfit hL hat hab hroom hu64 hX
 subst hul
 go_enter Tryz.func68,Tryz.ntmps68
 go_upto_region 10 with (go_at_call 39;refine(HG.out).mono ?_;rintro e w1 ⟨rfl,⟨m1,rfl⟩⟩)
 go_upto_region 13 with (go_at_call 39;refine(HG1.out _ (by repeat (first|exact Below.refl _ _|apply yaa))).mono ?_;rintro e w2 ⟨rfl,⟨m2,rfl⟩⟩)
 go_upto_region 16 with (go_at_call 108;refine(HD.out _ (by repeat (first|exact Below.refl _ _|apply yaa))).mono ?_;rintro e w3 ⟨v3,rfl,hb3,hR3⟩;have hb3':=(fun(hx:Below w.heap.size w _)=>yac hx hx.size hb3) (by repeat (first|exact Below.refl _ _|apply yaa));have hR3':=(fun(hx:Below w.heap.size w _)=>Kd.R_lower (hR3 rfl) hx.size) (by repeat (first|exact Below.refl _ _|apply yaa));obtain⟨A3,c3,rfl,hc3,hC3⟩:=Kd.R_reads hR3';clear hb3 hR3)
 go_upto_region 17 with (go_at_call 105;refine(yff.calls _ _ _ HUN.out).mono ?_;rintro e w6 ⟨rfl,⟨m6,rfl⟩⟩)
 have hb6:=yaa hb3' m6
 have hO6:=Kd.own_of_R (Kd.R_drewN hR3' m6)
 generalize w3.drewN m6=wr at *
 have hRM:=yh8 wr w.heap.size 2 .i64 us.length hb6.size (by omega)
 have hBM:Below w.heap.size w (wr.alloc (.cells (madeCells #[.int .i64 0] us.length) 2)):=hb6.alloc hb6.size _
 have hOM:=(yaj (Below.refl wr.heap.size wr) (.cells (madeCells #[.int .i64 0] us.length) 2))
 have hCM:=ye9 hO6 (fun k hk=>hOM.block k (yf8 hO6 k hk))
 rw[← hLl,← ylr,hLl] at hRM
 go_upto_region 18 with (fail)
 have HCM:=Lib.hid hCM
 generalize (wr.alloc (.cells (madeCells #[.int .i64 0] us.length) 2))=wy at *
 generalize wr.heap.size=g3 at *
 clear hmk hcut1 hb6 hb3' hO6 hC3 hCM hR3' hOM HG HG1 HD HUN
 go_wp2
 go_loopw [11,12,66] (fun _ _ vi wq=>∃ k:Nat,k≤us.length∧vi=.int .i64 k∧RowKit.Hid (∀ (j:Nat) (hj:j<us.length),j<k→¬ 9223372036854775807-y<us[j])∧RowKit.Hid (wq.ownsRow w.heap.size 2 1 (.slice (some ⟨g3,0,none⟩) us.length us.length) us.length (nums .i64 (usd L k)))∧RowKit.Hid (wq.ownsRow w.heap.size 63 1 (.slice A3 us.length c3) us.length (nums .u64 us))∧RowKit.Hid (Below w.heap.size w wq)) (fun _ _ vi _=>us.length-(intOf vi).toNat)
 case atStart=>exact⟨0,by omega,rfl,Lib.hid (fun j hj h=>absurd h (Nat.not_lt_zero _)),Lib.hid hRM,HCM,Lib.hid hBM⟩
 case round =>
  obtain⟨k,hk,rfl,HN,HR,HO,HB⟩:=hrel
  have HC:=Lib.hid (Kd.R_reads' (d:=Kd.int .u64) (ok:=fun _=>True) (Kd.R_of_own HO.out (fun _ _=>trivial))).2.2
  by_cases hlt:k<us.length
  ·obtain⟨ad,rfl,hx⟩:=Kd.at_int HC.out (k:Int) (by omega) (by omega)
   rw[yb1 hlt,Int.toNat_natCast] at hx
   have hfk:=HAT.out k hlt
   obtain⟨hcc,hfr⟩:=yl0 HR.out (k:Int) (by omega) (by omega)
   rw[Int.toNat_natCast] at hcc hfr
   by_cases hbig:9223372036854775807-y<us[k]
   ·have hXe:=HX.out
    rw[if_pos ⟨us[k],List.getElem_mem hlt,hbig⟩] at hXe
    obtain⟨x,hxx⟩:∃ x,x=us[k]:=⟨_,rfl⟩
    rw[← hxx] at hx hbig
    have hrm:=HRM.out
    have hcmp:IntKind.u64.wrap (9223372036854775807-IntKind.u64.wrap y)<x:=by rw[hrm];exact hbig
    clear hbig hrm hxx hfk hcc hfr HX
    subst hXe
    go_wp2
    go_ret2
    exact⟨_,rfl,Kd.R_nil _ _ _ _ _,HB.out⟩
   ·have hf:=hfk (by first|exact hbig|omega)
    have hn1:∀ (j:Nat) (hj:j<us.length),j<k+1→¬ 9223372036854775807-y<us[j]:=fun j hj h=>by
     by_cases e:j=k
     ·subst e;exact hbig
     ·exact HN.out j hj (by omega)
    have HN1:=Lib.hid hn1
    obtain⟨x,hxx⟩:∃ x,x=us[k]:=⟨_,rfl⟩
    rw[← hxx] at hx hbig hf
    have hrm:=HRM.out
    have hcmp:decide (IntKind.u64.wrap (9223372036854775807-IntKind.u64.wrap y)<x)=false:=by rw[hrm];simpa using hbig
    have hcmp2:¬ (IntKind.u64.wrap (9223372036854775807-IntKind.u64.wrap y)<x):=by rw[hrm];exact hbig
    have HF:=Lib.hid hf;have HLT:=Lib.hid hlt
    clear hbig hrm hxx hfk hf hn1 hlt HX
    go_wp2
    go_roundw
    case rel =>
     have hlt:=HLT.out
     have hst:=yik HR.out (k:Int) (IntKind.i64.wrap (IntKind.u64.wrap (IntKind.u64.wrap y+x)))
     rw[Int.toNat_natCast] at hst
     obtain⟨hst1,hst2⟩:=hst
     have he:L[k]'(by omega)=IntKind.i64.wrap (IntKind.u64.wrap (IntKind.u64.wrap y+x)):=by
      have:=HF.out
      rw[List.getElem?_eq_getElem (by omega)] at this
      exact Option.some.inj this
     rw[← he,ymm L k (by omega),he] at hst1
     rw[ya2] at hst1 hst2
     refine⟨k+1,by omega,by go_num,HN1,Lib.hid hst1,Lib.hid (yim HO.out hst2 (yhj HO.out HR.out (by decide))),Lib.hid (HB.out.grown hst2 HB.out.size (fun k' hk'=>?_))⟩
     injection hk' with hk'
     have:=yd1 HR.out g3 rfl
     omega
    case measure=>have:=HLT.out;simp [intOf];omega
  ·obtain rfl:k=us.length:=by omega
   have hXe:=HX.out
   rw[if_neg (by rintro⟨d,hd,hd2⟩;obtain⟨j,hj,rfl⟩:=List.mem_iff_getElem.1 hd;exact HN.out j hj hj hd2)] at hXe
   have hR9:=HR.out
   rw[← hLl,ymn,hLl] at hR9
   have hRU:Kd.R (Kd.int .i64) 2 wr w.heap.size (fun _=>True) (.slice (some ⟨g3,0,none⟩) us.length us.length) L:=Kd.R_of_own (by rw[hLl];exact hR9) (fun _ _=>trivial)
   have HRU:=Lib.hid hRU
   clear hR9 hRU HR HN HX
   subst hXe
   go_wp2
   go_ret2
   exact⟨_,rfl,HRU.out,HB.out⟩
theorem decPk_len {b:List Int} (hb:Bys b):(ye8 b).1.length≤4096:=by
 by_cases h:(ye8 b).2=0
 ·exact(yka hb h).2.2
 ·rw[decPk_err h];simp
theorem ylz {kind:Int}:yg3 kind 3:=by
 intro b n hb h c hc
 unfold yb3 at h hc
 rw[if_neg (by decide),if_neg (by decide),if_pos rfl] at h hc
 obtain⟨h1,h2,h3⟩:=yfx h
 rw[h3] at hc
 obtain⟨v,hv,rfl⟩:=List.mem_map.1 hc
 exact ylj ((yka hb h1).2.1 v hv)
set_option maxRecDepth 100000 in
set_option maxHeartbeats 1000000 in
theorem yl4 (kind:Int) (A:Option Addr) (c:Nat) (b:List Int) (n:Nat) (w:World) (h:Kd.C (Kd.int .u8) w A b.length b) (hc:b.length≤c) (hb:Bys b) (hl:b.length≤65000) (hn:n≤4096) :
  Calls Tryz.prog 41 #[.int .i64 kind,.int .i64 3,.slice A b.length c,.int .i64 n] w (yet w (yb3 kind 3 b n).1 (yb3 kind 3 b n).2):=by
 have hd:=pkDec_any A c b w h hc hb hl
 have hlen:=decPk_len hb
 have hcd:yb3 kind 3 b n=ycy ((ye8 b).1.map yex) (ye8 b).2 n:=by unfold yb3;rw[if_neg (by decide),if_neg (by decide),if_pos rfl]
 rw[hcd]
 clear hcd
 generalize ye8 b=r at *
 obtain⟨vs,er⟩:=r
 simp only at hd hlen ⊢
 obtain⟨k,hk⟩:=(yil vs er hlen).ex
 have hml:(vs.map yex).length=vs.length:=List.length_map _
 have hlen2:(vs.map yex).length≤4096:=by omega
 generalize vs.map yex=cs at *
 have HD:=Lib.hid hd;have HK:=Lib.hid hk
 clear h hb hd hk hml hlen
 by_cases he:er=0
 ·subst he
  by_cases hm:cs.length=n
  ·have hX:ycy cs 0 n=(cs,0):=yfg cs n hm
   rw[hX]
   subst hm
   clear hX
   go_enter Tryz.func41,Tryz.ntmps41
   go_upto_region 11 with (first
    | (go_at_call 68;refine HD.out.mono ?_;rintro e w1 ⟨v1,rfl,hR1,hb1⟩;obtain⟨A1,c1,rfl,hc1,hC1⟩:=Kd.R_reads hR1)
    | (go_at_call 66;refine(ybj.calls k A1 c1 vs 0 cs 0 _ hC1 hc1 HK.out).mono ?_;rintro e w2 ⟨v2,rfl,hS2,hb2⟩;obtain⟨A2,c2,rfl,hc2,hC2⟩:=Kd.S_reads hS2))
   have hb3:=yac hb1 hb1.size hb2
   have hS3:=Lib.hid (Kd.S_lower hS2 hb1.size)
   clear hS2 hC2 hR1 hC1
   go_wp2
   go_ret2
   exact⟨_,rfl,hb3,fun _=>CelB.of_S hS3.out⟩
  ·have hX:ycy cs 0 n=([],5):=by unfold ycy;rw[if_neg (by decide),if_pos hm]
   rw[hX]
   have hmi:¬ (cs.length:Int)=(n:Int):=by omega
   have hmb:((cs.length:Int) == (n:Int))=false:=by simpa using hmi
   clear hX
   go_enter Tryz.func41,Tryz.ntmps41
   go_upto_region 11 with (first
    | (go_at_call 68;refine HD.out.mono ?_;rintro e w1 ⟨v1,rfl,hR1,hb1⟩;obtain⟨A1,c1,rfl,hc1,hC1⟩:=Kd.R_reads hR1)
    | (go_at_call 66;refine(ybj.calls k A1 c1 vs 0 cs 0 _ hC1 hc1 HK.out).mono ?_;rintro e w2 ⟨v2,rfl,hS2,hb2⟩;obtain⟨A2,c2,rfl,hc2,hC2⟩:=Kd.S_reads hS2))
   have hb3:=yac hb1 hb1.size hb2
   have hS3:=Lib.hid (Kd.S_lower hS2 hb1.size)
   clear hS2 hC2 hR1 hC1
   go_wp2
   go_ret2
   exact⟨_,rfl,hb3,fun h=>absurd h (by decide)⟩
 ·have hX:ycy cs er n=([],er):=by unfold ycy;rw[if_pos he]
  rw[hX]
  have heb:(er == 0)=false:=by simpa using he
  clear hX
  go_enter Tryz.func41,Tryz.ntmps41
  go_upto_region 11 with (first
   | (go_at_call 68;refine HD.out.mono ?_;rintro e w1 ⟨v1,rfl,hR1,hb1⟩;obtain⟨A1,c1,rfl,hc1,hC1⟩:=Kd.R_reads hR1)
   | (go_at_call 66;refine(ybj.calls k A1 c1 vs er cs er _ hC1 hc1 HK.out).mono ?_;rintro e w2 ⟨v2,rfl,hS2,hb2⟩;obtain⟨A2,c2,rfl,hc2,hC2⟩:=Kd.S_reads hS2))
  have hb3:=yac hb1 hb1.size hb2
  have hS3:=Lib.hid (Kd.S_lower hS2 hb1.size)
  clear hS2 hC2 hR1 hC1
  go_wp2
  go_ret2
  exact⟨_,rfl,hb3,fun h=>absurd h he⟩
theorem ynx (kind:Int):yfy kind 3:=fun A c b n w h hc hb hl hn=>yl4 kind A c b n w h hc hb hl hn
theorem CelT.below {w w':World} {base:Nat} {v:Value} {ts:List OwnT} (h:CelT w base v ts) (hb:Below w.heap.size w w'):CelT w' base v ts:=h.keep (fun k _ hk=>hb.block k hk)
theorem CelT.og_lt {w:World} {base:Nat} {v:Value} {ts:List OwnT} (h:CelT w base v ts) {t:OwnT} (ht:t∈ts) {g:Nat} (hg:t.og=some g):g<w.heap.size:=(h.each t ht).lt g hg
theorem CelT.snoc {W0 W1 W2:World} {base:Nat} {v v2:Value} {ts:List OwnT} {t:OwnT} (h:CelT W0 base v ts) (h01:∀ g,g<W0.heap.size→some g≠v.ownBlock→W2.heap[g]?=W0.heap[g]?) (hv:∀ t∈ts,∀ g,t.og=some g→some g≠v.ownBlock)
  (hn:∀ g,t.og=some g→W0.heap.size≤g) (ht:Byt W2 base t.og t.u t.c.f2) (hR:Kd.R (Kd.raw 3) 53 W2 base (fun _=>True) v2 ((ts++[t]).map OwnT.row)):CelT W2 base v2 (ts++[t]):=by
 refine⟨fun x hx=>?_,List.pairwise_append.2 ⟨h.apart,by simp,fun a ha b hb g hg hg2=>?_⟩,hR⟩
 ·rcases List.mem_append.1 hx with hx|hx
  ·exact(h.each x hx).keep (fun g hg=>h01 g (h.og_lt hx hg) (hv x hx g hg))
  ·obtain rfl:=List.mem_singleton.1 hx
   exact ht
 ·obtain rfl:=List.mem_singleton.1 hb
  have h1:=h.og_lt ha hg
  have h2:=hn g hg2
  omega
theorem CelT.nil (w:World) (base:Nat):CelT w base (.slice none 0 0) []:=⟨fun t ht=>(by cases ht),List.Pairwise.nil,Kd.R_nil _ _ _ _ _⟩
theorem CelT.slice {w:World} {base:Nat} {v:Value} {ts:List OwnT} (h:CelT w base v ts):∃ A c,v=.slice A ts.length c:=by
 obtain⟨A,c,e,_⟩:=h.reads
 exact⟨A,c,e⟩
theorem CelT.lower {w:World} {base base':Nat} {v:Value} {ts:List OwnT} (h:CelT w base v ts) (hb:base'≤base):CelT w base' v ts:=⟨fun t ht=>(h.each t ht).lower hb,h.apart,Kd.R_lower h.row hb⟩
theorem CelT.push {W w1:World} {base:Nat} {v v1:Value} {ts:List OwnT} {t:OwnT} (h:CelT W base v ts) (hg:W.grownBy w1 v.ownBlock) (hn:∀ g,t.og=some g→∀ x∈ts,x.og≠some g) (ht:Byt W base t.og t.u t.c.f2) (hR:Kd.R (Kd.raw 3) 53 w1 base (fun _=>True) v1 (ts.map OwnT.row++[t.row])):CelT w1 base v1 (ts++[t]):=by
 have hrow:∀ (og:Option Nat) (u:Value) (xs:List Int),Byt W base og u xs→Byt w1 base og u xs:=fun og u xs hB=>hB.keep (fun g hgo=>by
  have hne:some g≠v.ownBlock:=by
   obtain⟨c1,m1,t1⟩:=hB.typed g hgo
   intro e
   obtain⟨inner,ho⟩:=Kd.R_own h.row
   obtain⟨c2,t2⟩:=yds ho g e.symm
   rw[t1] at t2
   injection t2 with t2
   injection t2 with _ t2 _
   exact absurd t2 (by decide)
  exact hg.block g (hB.lt g hgo) hne)
 refine⟨fun x hx=>?_,List.pairwise_append.2 ⟨h.apart,by simp,fun a ha b hb g hga hgb=>?_⟩,by rw[List.map_append];exact hR⟩
 ·rcases List.mem_append.1 hx with hx|hx
  ·exact hrow _ _ _ (h.each x hx)
  ·obtain rfl:=List.mem_singleton.1 hx
   exact hrow _ _ _ ht
 ·obtain rfl:=List.mem_singleton.1 hb
  exact hn g hgb a ha hga
theorem celV_one (y:Int):∀ u∈[Value.bool false,.int .i64 y,.slice none 0 0],u.oneCell'=true:=by
 intro u hu
 simp only[List.mem_cons,List.not_mem_nil,or_false] at hu
 rcases hu with rfl|rfl|rfl <;> rfl
theorem yn4 (A:Option Addr) (n c:Nat):∀ u∈[Value.bool false,.int .i64 0,.slice A n c],u.oneCell'=true:=by
 intro u hu
 simp only[List.mem_cons,List.not_mem_nil,or_false] at hu
 rcases hu with rfl|rfl|rfl <;> rfl
set_option maxRecDepth 100000 in
set_option maxHeartbeats 2000000 in
theorem yng (kind:Int) (A:Option Addr) (c:Nat) (b:List Int) (n:Nat) (w:World) (hk:yd9 kind) (h:Kd.C (Kd.int .u8) w A b.length b) (hc:b.length≤c) (hb:Bys b) (hl:b.length≤65000) (hn:n≤4096) :
  Calls Tryz.prog 65 #[.int .i64 kind,.slice A b.length c,.int .i64 n] w (yet w (ygt kind b n).1 (ygt kind b n).2):=by
 have hnum:=yhf hk
 have hgp:=fun(p:Nat) (hp:p≤b.length)=>yfo h hc hb (by omega) hp
 obtain⟨X,hX⟩:∃ X,ydh kind b n 0 []=X:=⟨_,rfl⟩
 have hRR:ygt kind b n=if X.2.2≠0 then ([],X.2.2) else if X.2.1<b.length then ([],3) else (X.1,0):=by unfold ygt;rw[hX]
 rw[hRR]
 generalize hRR2:(if X.2.2≠0 then (([]:List Cel),X.2.2) else if X.2.1<b.length then ([],3) else (X.1,0))=RR
 have HRR:=Lib.hid hRR2;have HX:=Lib.hid hX;have HGP:=Lib.hid hgp;have HBY:=Lib.hid hb;have HC:=Lib.hid h;have HN:=Lib.hid hnum
 clear hRR hRR2 hX hgp hb h hnum
 go_enter Tryz.func65,Tryz.ntmps65
 go_wp2
 go_loopw [8,9,14] (fun v8 v9 vi wq=>∃ (i p:Nat) (ts:List OwnT),i≤n∧vi=.int .i64 i∧v9=.int .i64 p∧p≤b.length∧ts.length=i∧RowKit.Hid (ydh kind b (n-i) p (ts.map (·.c))=X)∧RowKit.Hid (CelT wq w.heap.size v8 ts)∧RowKit.Hid (Below w.heap.size w wq)) (fun _ _ vi _=>n-(intOf vi).toNat)
 case atStart=>exact⟨0,0,[],Nat.zero_le _,rfl,rfl,Nat.zero_le _,rfl,HX,Lib.hid (CelT.nil _ _),Lib.hid (Below.refl _ _)⟩
 case round =>
  obtain⟨i,p,ts,hi9,rfl,rfl,hp,htl,hXi,HT,HBR⟩:=hrel
  obtain⟨A8,c8,rfl⟩:=HT.out.slice
  by_cases hlt:i<n
  ·obtain⟨m,hm⟩:∃ m,n-i=m+1:=⟨n-i-1,by omega⟩
   have hm2:n-(i+1)=m:=by omega
   have hX1:=hXi.out
   rw[hm] at hX1
   unfold ydh at hX1
   have hg1:=HGP.out p hp
   have hl1:=fun h=>yeg HBY.out (p:=p) h
   have hs1:=fun h=>ye1 (p:=p) HBY.out h
   generalize vget b p=r1 at *
   obtain⟨u,q,e1⟩:=r1
   simp only at hg1 hl1 hs1 hX1
   have HG1:=Lib.hid hg1
   clear hg1 hXi
   by_cases he1:e1=0
   ·subst he1
    rw[if_neg (by decide)] at hX1
    obtain⟨hq,_⟩:=hl1 rfl
    have hu64:=hs1 rfl
    clear hl1 hs1
    by_cases hk6:kind≤6
    ·rw[if_pos hk6] at hX1
     rw[decide_eq_true hk6] at HN
     have hun:=yjn hu64
     generalize ydg u=y at *
     have HU:=Lib.hid hun;have HXI:=Lib.hid hX1;have HM:=Lib.hid hm2;have HLT:=Lib.hid hlt;have HTL:=Lib.hid htl
     have hrl:(ts.map OwnT.row).length=i:=by rw[List.length_map,htl]
     have HRL:=Lib.hid hrl
     clear hun hX1 hm hm2 hrl htl
     go_wp2_with (first
      | (go_at_call 39;refine(HG1.out _ HBR.out).mono ?_;rintro e w4 ⟨rfl,⟨m4,rfl⟩⟩)
      | (go_at_call 50;refine(ybr.calls kind true _ HN.out).mono ?_;rintro e w5 ⟨rfl,⟨m5,rfl⟩⟩)
      | (go_at_call 105;refine(yff.calls _ _ _ HU.out).mono ?_;rintro e w6 ⟨rfl,⟨m6,rfl⟩⟩)
      | (at_builtin;refine Kd.R_append (Kd.raw 3) (w0:=w) w.heap.size rfl (.tmp 30) (.tmp 34) 22 53 (.agg #[.bool false,.int .i64 0,.slice none 0 0]) 40 rfl Tryz.underlying22 yiw rfl (by decide) (by decide) _ (ts.map OwnT.row) [.bool false,.int .i64 y,.slice none 0 0] [.bool false,.int .i64 y,.slice none 0 0] (fun _=>True) (fun _=>False) rfl rfl ⟨rfl,rfl,celV_one y⟩ (fun _ hk=>hk.elim) (fun _ _=>trivial) (HT.out.below (by repeat (first|exact Below.refl _ _|apply yaa))).row (yaa HBR.out _) (yaa HBR.out _).size (by have:=HRL.out;have:=HLT.out;omega) ?_;intro v7 w7 hR7 hb7 hg7 hat7;have hT7:=(HT.out.below (by repeat (first|exact Below.refl _ _|apply yaa))).push (t:=⟨yex y,.slice none 0 0,none⟩) hg7 (fun g hg=>(by cases hg)) (.inl ⟨rfl,rfl,rfl⟩) hR7;have HT7:=Lib.hid hT7;have HB7:=Lib.hid hb7;obtain⟨A7,c7,rfl⟩:=hT7.slice;clear hR7 hb7 hg7 hat7 hT7))
     go_roundw
     case rel=>exact⟨i+1,q,ts++[⟨yex y,.slice none 0 0,none⟩],HLT.out,by go_num,rfl,hq,by rw[List.length_append,HTL.out];rfl,Lib.hid (by rw[HM.out];simpa using HXI.out),Lib.hid (by have h:=HT7.out;rw[List.length_append] at h;exact h),HB7⟩
     case measure=>have:=HLT.out;simp [intOf];omega
    ·rw[if_neg hk6] at hX1
     rw[decide_eq_false hk6] at HN
     by_cases h200:200<u
     ·rw[if_pos h200] at hX1
      have h2i:(200:Int)<(u:Int):=by omega
      have HXI:=Lib.hid hX1
      clear hX1 hm hm2
      go_wp2_with (first
       | (go_at_call 39;refine(HG1.out _ HBR.out).mono ?_;rintro e w4 ⟨rfl,⟨m4,rfl⟩⟩)
       | (go_at_call 50;refine(ybr.calls kind false _ HN.out).mono ?_;rintro e w5 ⟨rfl,⟨m5,rfl⟩⟩))
      go_ret2
      rw[← HRR.out,← HXI.out,if_pos (by decide)]
      exact yet.none (by decide) (by repeat (first|exact HBR.out|apply yaa))
     ·rw[if_neg h200] at hX1
      have h2i:decide ((200:Int)<(u:Int))=false:=by simp;omega
      have h2n:u≤200:=by omega
      by_cases hsh:b.length-q<u
      ·rw[if_pos hsh] at hX1
       have h3i:(b.length:Int)-(q:Int)<(u:Int):=by omega
       have HXI:=Lib.hid hX1
       clear hX1 hm hm2
       go_wp2_with (first
        | (go_at_call 39;refine(HG1.out _ HBR.out).mono ?_;rintro e w4 ⟨rfl,⟨m4,rfl⟩⟩)
        | (go_at_call 50;refine(ybr.calls kind false _ HN.out).mono ?_;rintro e w5 ⟨rfl,⟨m5,rfl⟩⟩))
       go_ret2
       rw[← HRR.out,← HXI.out,if_pos (by decide)]
       exact yet.none (by decide) (by repeat (first|exact HBR.out|apply yaa))
      ·rw[if_neg hsh] at hX1
       have h3i:decide ((b.length:Int)-(q:Int)<(u:Int))=false:=by simp;omega
       have hqu:q+u≤b.length:=by omega
       obtain⟨B',hcut,hB'⟩:=yih A c b q (q+u) (by omega) hqu hc
       have hsd:(b.take (q+u)).drop q=(b.drop q).take u:=by rw[List.drop_take];congr 1;omega
       rw[show q+u-q=u by omega,hsd] at hB'
       rw[show q+u-q=u by omega,show((q+u:Nat):Int)=(q:Int)+(u:Int) by omega] at hcut
       have hsl:((b.drop q).take u).length=u:=by rw[List.length_take,List.length_drop];omega
       obtain⟨s,hs⟩:∃ s,s=(b.drop q).take u:=⟨_,rfl⟩
       rw[← hs] at hsl hB' hX1
       have hcl:=fun(w2:World) (hb2:Below w.heap.size w w2)=>yij B' (c-q) s w2 (by rw[hsl];exact hB' w2 (Kd.C_below HC.out hb2)) (by omega)
       rw[hsl] at hcl
       have hrl:(ts.map OwnT.row).length=i:=by rw[List.length_map,htl]
       have HRL:=Lib.hid hrl;have HCL:=Lib.hid hcl;have HSL:=Lib.hid hsl
       have HXI:=Lib.hid hX1;have HM:=Lib.hid hm2;have HLT:=Lib.hid hlt;have HTL:=Lib.hid htl
       clear hX1 hm hm2 hrl htl hcl hsl hs hB' hsd
       go_wp2_with (first
        | (go_at_call 39;refine(HG1.out _ HBR.out).mono ?_;rintro e w4 ⟨rfl,⟨m4,rfl⟩⟩)
        | (go_at_call 50;refine(ybr.calls kind false _ HN.out).mono ?_;rintro e w5 ⟨rfl,⟨m5,rfl⟩⟩)
        | (go_at_call 106;refine(HCL.out _ (by repeat (first|exact HBR.out|apply yaa))).mono ?_;rintro e w6 ⟨A6,c6,rfl,ho6,hb6⟩;have HT6:=Lib.hid ((HT.out.below (by repeat (first|exact Below.refl _ _|apply yaa))).below hb6);have HB6:=Lib.hid ((fun(hx:Below w.heap.size w _)=>yac hx hx.size hb6) (by repeat (first|exact HBR.out|apply yaa)));have HO6:=Lib.hid ho6;have HSZ:=Lib.hid ((fun {W5:World} (hx:Below wr.heap.size wr W5) (_:Below W5.heap.size W5 w6)=>hx.size) (by repeat (first|exact Below.refl _ _|apply yaa)) hb6);clear ho6 hb6)
        | (at_builtin;refine Kd.R_append (Kd.raw 3) (w0:=w) w.heap.size rfl (.tmp 52) (.tmp 59) 22 53 (.agg #[.bool false,.int .i64 0,.slice none 0 0]) 40 rfl Tryz.underlying22 yiw rfl (by decide) (by decide) _ (ts.map OwnT.row) [.bool false,.int .i64 0,.slice A6 u c6] [.bool false,.int .i64 0,.slice A6 u c6] (fun _=>True) (fun _=>False) rfl rfl ⟨rfl,rfl,yn4 A6 u c6⟩ (fun _ hk=>hk.elim) (fun _ _=>trivial) HT6.out.row HB6.out HB6.out.size (by have:=HRL.out;have:=HLT.out;omega) ?_;intro v7 w7 hR7 hb7 hg7 hat7;have hT7:=HT6.out.push (t:=⟨yd0 s,.slice A6 u c6,(Value.slice A6 u c6).ownBlock⟩) hg7 (fun g hg x hx hxg=>(by have h1:=HT.out.og_lt hx hxg;have h2:=yd1 HO6.out g hg;have h3:=HSZ.out;omega)) ((Byt.of_own HO6.out).lower (Nat.le_trans HBR.out.size HSZ.out)) hR7;have HT7:=Lib.hid hT7;have HB7:=Lib.hid hb7;obtain⟨A7,c7,rfl⟩:=hT7.slice;clear hR7 hb7 hg7 hat7 hT7))
       go_roundw
       case rel=>exact⟨i+1,q+u,ts++[⟨yd0 s,.slice A6 u c6,(Value.slice A6 u c6).ownBlock⟩],HLT.out,by go_num,by go_num,hqu,by rw[List.length_append,HTL.out];rfl,Lib.hid (by rw[HM.out];simpa using HXI.out),Lib.hid (by have h:=HT7.out;rw[List.length_append] at h;exact h),HB7⟩
       case measure=>have:=HLT.out;simp [intOf];omega
   ·rw[if_pos he1] at hX1
    have heb:(e1 == 0)=false:=by simpa using he1
    have HXI:=Lib.hid hX1;have HE1:=Lib.hid he1
    clear hX1 hl1 hs1 hm hm2 he1
    go_wp2_with (go_at_call 39;refine(HG1.out _ HBR.out).mono ?_;rintro e w4 ⟨rfl,⟨m4,rfl⟩⟩)
    go_ret2
    rw[← HRR.out,← HXI.out,if_pos HE1.out]
    exact yet.none HE1.out (yaa HBR.out _)
  ·obtain rfl:i=n:=by omega
   have hX1:=hXi.out
   rw[Nat.sub_self] at hX1
   unfold ydh at hX1
   have HXI:=Lib.hid hX1
   clear hX1 hXi
   by_cases htr:p<b.length
   ·have hti:(p:Int)<(b.length:Int):=by omega
    go_wp2
    go_ret2
    rw[← HRR.out,← HXI.out,if_neg (by simp),if_pos htr]
    exact yet.none (by decide) HBR.out
   ·have htd:decide ((p:Int)<(b.length:Int))=false:=by simp;omega
    go_wp2
    go_ret2
    rw[← HRR.out,← HXI.out,if_neg (by simp),if_neg htr]
    exact⟨_,rfl,HBR.out,fun _=>⟨ts,rfl,HT.out⟩⟩
end Go.Proofs.YteeikgjjgfdjgaaGreat.PK
end
