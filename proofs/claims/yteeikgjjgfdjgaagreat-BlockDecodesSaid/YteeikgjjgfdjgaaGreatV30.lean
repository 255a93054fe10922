/-
  Parts of the proof: AKs, AKt, AKy, Cz, Cza, Xg, Xh, Xi, Xc, Yd.
-/
import Derived.Deep.Upon
import Derived.Test.YteeikgjjgfdjgaaGreatV29
import Derived.SizedLaws
import Derived.ChangeSame
import Derived.Deep.Slices
import Derived.Deep.Strs
import Derived.ProofKit
import Derived.OpenShut
import Derived.Carry
import Derived.ChangeOld
import Derived.Test.YteeikgjjgfdjgaaGreatV27
import Derived.Test.YteeikgjjgfdjgaaGreatV23
set_option maxHeartbeats 4000000
set_option maxRecDepth 100000
section
namespace Go.Proofs.YteeikgjjgfdjgaaGreat.PK
open Go.RowKit Go.Maps YteeikgjjgfdjgaaGreatW.PrintWords YteeikgjjgfdjgaaGreatW.PrintLast YteeikgjjgfdjgaaGreatW.PrintMore
set_option linter.unusedVariables false
set_option linter.unusedSimpArgs false
def tw (x:Int):Int:=Go.bits .xor .u8 x 90
structure Hold (B:Nat) (w w':World):Prop where
 os:w'.os=w.os
 output:w'.output=w.output
 size:w.heap.size≤w'.heap.size
 block:∀ k,k<B→k<w.heap.size→w'.heap[k]?=w.heap[k]?
theorem Hold.of_below {B:Nat} {w w':World} (h:Below B w w'):Hold B w w':=⟨h.os,h.output,h.size,fun k hk _=>h.block k hk⟩
theorem Hold.trans {B:Nat} {a b c:World} (h:Hold B a b) (k:Hold B b c):Hold B a c:=
 ⟨k.os.trans h.os,k.output.trans h.output,Nat.le_trans h.size k.size,fun i hi hl=>(k.block i hi (by have:=h.size;omega)).trans (h.block i hi hl)⟩
theorem Hold.mono {B B':Nat} {w w':World} (h:Hold B w w') (hB:B'≤B):Hold B' w w':=⟨h.os,h.output,h.size,fun k hk hl=>h.block k (by omega) hl⟩
theorem Hold.below {w w':World} (h:Hold w.heap.size w w'):Below w.heap.size w { w' with tape:=w.tape }:=⟨h.os,rfl,h.output,h.size,fun k hk=>h.block k hk hk⟩
theorem C_hold {w w':World} {A:Option Addr} {n:Nat} {xs:List Int} (h:Kd.C (Kd.int .u8) w A n xs) (hh:Hold w.heap.size w w'):Kd.C (Kd.int .u8) w' A n xs:=by
 have h2:=Kd.C_below h hh.below
 exact h2
theorem Byt.cell {w:World} {base:Nat} {og:Option Nat} {v:Value} {xs:List Int} (h:Byt w base og v xs) {i:Nat} (hi:i<xs.length):∃ g cap,og=some g∧v=.slice (some ⟨g,0,none⟩) xs.length cap∧w.cell? ⟨g,i,none⟩=some (.int .u8 xs[i])∧w.frozen? ⟨g,i,none⟩=false:=by
 rcases h with ⟨_,_,rfl⟩|⟨g,cap,cells,m,h1,h2,h3,h4,hh,h6,h7,hx,hcell⟩
 ·simp at hi
 ·refine⟨g,cap,h1,h2,?_,?_⟩
  ·simp only[World.cell?,hh]
   rw[hcell i hi]
   simp
  ·simp only[World.frozen?,hh]
   rcases h7 with h7|h7
   ·simp;omega
   ·simp;omega
theorem Byt.store {w:World} {base g:Nat} {v:Value} {xs:List Int} (h:Byt w base (some g) v xs) {i:Nat} (hi:i<xs.length) (x:Int):Byt (w.setCell ⟨g,i,none⟩ (.int .u8 x)) base (some g) v (xs.set i x)∧w.grownBy (w.setCell ⟨g,i,none⟩ (.int .u8 x)) (some g):=by
 rcases h with ⟨h,_⟩|⟨g',cap,cells,m,h1,h2,h3,h4,hh,h6,h7,hx,hcell⟩
 ·cases h
 ·injection h1 with h1
  subst h1
  refine⟨.inr ⟨g,cap,cells.setIfInBounds i (.int .u8 x),m,rfl,by rw[List.length_set];exact h2,h3,by rw[List.length_set];exact h4,?_,by simpa using h6,h7,hx,fun j hj=>?_⟩,⟨rfl,rfl,rfl,by simp,fun k _ hk=>heap_setCell_other w ⟨g,i,none⟩ k _ (fun e=>hk (by simp [e]))⟩⟩
  ·simp only[World.setCell,Array.getElem?_modify,if_pos rfl,hh]
   rfl
  ·rw[List.length_set] at hj
   rw[Array.getElem?_setIfInBounds]
   by_cases hij:i=j
   ·subst hij
    rw[if_pos rfl,if_pos (by omega)]
    simp
   ·rw[if_neg hij,hcell j hj,List.getElem_set_ne hij]
def spo (xs:List Int) (i:Nat):List Int:=(xs.take i).map tw++xs.drop i
theorem yhi (xs:List Int) (i:Nat):(spo xs i).length=xs.length:=by
 unfold spo
 rw[List.length_append,List.length_map,List.length_take,List.length_drop]
 omega
theorem spo_get (xs:List Int) (i:Nat) (hi:i<xs.length):(spo xs i)[i]'(by rw[yhi];exact hi)=xs[i]:=by
 have h:(spo xs i)[i]?=some xs[i]:=by
  unfold spo
  rw[List.getElem?_append_right (by rw[List.length_map,List.length_take];omega),List.length_map,List.length_take,Nat.min_eq_left (by omega),Nat.sub_self,List.getElem?_drop,Nat.add_zero,List.getElem?_eq_getElem hi]
 rw[List.getElem?_eq_getElem (by rw[yhi];exact hi)] at h
 injection h
theorem spo_set (xs:List Int) (i:Nat) (hi:i<xs.length):(spo xs i).set i (tw xs[i])=spo xs (i+1):=by
 unfold spo
 rw[← ybd xs i hi,List.map_append,List.drop_eq_getElem_cons hi,List.set_append_right _ _ (by rw[List.length_map,List.length_take];omega),List.length_map,List.length_take,Nat.min_eq_left (by omega),Nat.sub_self,List.append_assoc]
 rfl
theorem spo_zero (xs:List Int):spo xs 0=xs:=by simp [spo]
theorem spo_all (xs:List Int):spo xs xs.length=xs.map tw:=by simp [spo]
theorem spoil_any (base:Nat) (og:Option Nat) (v:Value) (xs:List Int) (w:World) (h:Byt w base og v xs) (hl:xs.length≤140737488355328) :
  Calls Tryz.prog 35 #[v] w fun e w'=>e=.returned (.tuple #[])∧Byt w' base og v (xs.map tw)∧w.grownBy w' og:=by
 obtain⟨A0,c0,rfl,hc0,_⟩:=h.reads
 have H0:=Lib.hid h
 clear h
 go_enter Tryz.func35,Tryz.ntmps35
 go_wp2
 go_loopw [2] (fun vi wq=>∃ i:Nat,i≤xs.length∧vi=.int .i64 i∧Byt wq base og (.slice A0 xs.length c0) (spo xs i)∧w.grownBy wq og) (fun vi _=>xs.length-(intOf vi).toNat)
 case atStart=>exact⟨0,by omega,rfl,by rw[spo_zero];exact H0.out,⟨rfl,rfl,rfl,Nat.le_refl _,fun _ _ _=>rfl⟩⟩
 case round =>
  obtain⟨i,hi,rfl,hB,hg⟩:=hrel
  by_cases hlt:i<xs.length
  ·obtain⟨g,cap,rfl,hv,hcell,hfr⟩:=hB.cell (i:=i) (by rw[yhi];exact hlt)
   rw[spo_get xs i hlt] at hcell
   rw[yhi] at hv
   injection hv with hv _ hcap
   subst hv
   subst hcap
   obtain⟨x,hx⟩:∃ x,x=xs[i]:=⟨_,rfl⟩
   rw[← hx] at hcell
   have HB:=Lib.hid hB;have HX:=Lib.hid hx;have HLT:=Lib.hid hlt
   clear hB hx
   go_wp2
   obtain⟨k1,k2⟩:=HB.out.store (i:=i) (by rw[yhi];exact HLT.out) (tw x)
   rw[HX.out,spo_set xs i hlt,← HX.out] at k1
   exact⟨⟨i+1,by omega,by go_num,k1,hg.trans k2⟩,by simp [intOf];omega⟩
  ·obtain rfl:i=xs.length:=by omega
   rw[spo_all] at hB
   go_wp2
   first|go_end0|((try simp only[Exit.inBlock,Exit.then]);refine bodyPost_ret (results_none rfl _ _ _) rfl ?_)
   exact⟨rfl,hB,hg⟩
structure Side (base B:Nat) (w w':World):Prop where
 os:w'.os=w.os
 output:w'.output=w.output
 size:w.heap.size≤w'.heap.size
 block:∀ k,k<w.heap.size→(k<base∨B≤k)→w'.heap[k]?=w.heap[k]?
theorem Side.refl (base B:Nat) (w:World):Side base B w w:=⟨rfl,rfl,Nat.le_refl _,fun _ _ _=>rfl⟩
theorem Side.trans {base B:Nat} {a b c:World} (h:Side base B a b) (k:Side base B b c):Side base B a c:=
 ⟨k.os.trans h.os,k.output.trans h.output,Nat.le_trans h.size k.size,fun i hi hl=>(k.block i (by have:=h.size;omega) hl).trans (h.block i hi hl)⟩
theorem Side.of_below {base B:Nat} {w w':World} (h:Below w.heap.size w w'):Side base B w w':=⟨h.os,h.output,h.size,fun k hk _=>h.block k hk⟩
theorem Side.drewN {base B:Nat} {w w':World} (h:Side base B w w') (n:Nat):Side base B w (w'.drewN n):=h.trans (Side.of_below (yab (Below.refl _ _) n))
theorem Side.hold {base B:Nat} {w w':World} (h:Side base B w w'):Hold base w w':=⟨h.os,h.output,h.size,fun k hk hl=>h.block k hl (.inl hk)⟩
structure EntX (w:World) (base B:Nat) (v:Value) (vs:List Value) (ogs:List (Option Nat)) (es:List (List Int)):Prop where
 row:w.ownsRow base 25 1 v es.length vs
 len:ogs.length=es.length
 apart:∀ (i j:Nat) (g:Nat),i<j→ogs[i]?=some (some g)→ogs[j]?≠some (some g)
 low:∀ (i:Nat) (g:Nat),ogs[i]?=some (some g)→g<B
 each:∀ i (h:i<es.length),∃ u og,vs[i]?=some u∧ogs[i]?=some og∧Byt w base og u es[i]
theorem EntX.of {w:World} {base:Nat} {v:Value} {es:List (List Int)} (h:EntB w base v es):∃ vs ogs,EntX w base w.heap.size v vs ogs es:=by
 obtain⟨vs,ogs,h1,h2,h3,h4⟩:=h
 refine⟨vs,ogs,h1,h2,h3,fun i g hg=>?_,h4⟩
 obtain⟨hi,_⟩:=List.getElem?_eq_some_iff.1 hg
 obtain⟨u,og,_,hog,hB⟩:=h4 i (by omega)
 rw[hg] at hog
 injection hog with hog
 exact hB.lt g hog.symm
theorem EntX.entB {w:World} {base B:Nat} {v:Value} {vs:List Value} {ogs:List (Option Nat)} {es:List (List Int)} (h:EntX w base B v vs ogs es):EntB w base v es:=⟨vs,ogs,h.row,h.len,h.apart,h.each⟩
theorem EntX.below {w w':World} {base B:Nat} {v:Value} {vs:List Value} {ogs:List (Option Nat)} {es:List (List Int)} (h:EntX w base B v vs ogs es) (hb:∀ k,k<w.heap.size→w'.heap[k]?=w.heap[k]?):EntX w' base B v vs ogs es:=by
 refine⟨yey h.row (fun k hk=>hb k (yft h.row k hk)),h.len,h.apart,h.low,fun i hi=>?_⟩
 obtain⟨u,og,hu,hog,hB⟩:=h.each i hi
 exact⟨u,og,hu,hog,hB.keep (fun g hg=>hb g (hB.lt g hg))⟩
theorem EntX.upd {w w':World} {base B:Nat} {v:Value} {vs:List Value} {ogs:List (Option Nat)} {es:List (List Int)} (h:EntX w base B v vs ogs es) {i:Nat} (hi:i<es.length) {u:Value} {og:Option Nat} {x:List Int}
  (hu:vs[i]?=some u) (hog:ogs[i]?=some og) (hx:Byt w' base og u x) (hos:w'.os=w.os) (hout:w'.output=w.output) (hsz:w.heap.size≤w'.heap.size) (hk:∀ k,k<w.heap.size→og≠some k→w'.heap[k]?=w.heap[k]?) :
  EntX w' base B v vs ogs (es.set i x)∧Side base B w w':=by
 obtain⟨u0,og0,hu0,hog0,hB0⟩:=h.each i hi
 rw[hu] at hu0
 rw[hog] at hog0
 injection hu0 with hu0
 injection hog0 with hog0
 subst hu0
 subst hog0
 refine⟨⟨?_,by rw[List.length_set];exact h.len,h.apart,h.low,fun j hj=>?_⟩,hos,hout,hsz,fun k hk' hs=>?_⟩
 ·rw[List.length_set]
  refine yey h.row (fun k hk'=>hk k (yft h.row k hk') (fun e=>?_))
  obtain⟨c1,m1,t1⟩:=hB0.typed k e
  obtain⟨c2,t2⟩:=ydt h.row k hk'
  rw[t1] at t2
  injection t2 with t2
  injection t2 with _ t2 _
  exact absurd t2 (by decide)
 ·rw[List.length_set] at hj
  by_cases hij:i=j
  ·subst hij
   refine⟨u,og,hu,hog,?_⟩
   rw[List.getElem_set_self]
   exact hx
  ·obtain⟨u',og',hu',hog',hB'⟩:=h.each j hj
   refine⟨u',og',hu',hog',?_⟩
   rw[List.getElem_set_ne hij]
   refine hB'.keep (fun g hg=>hk g (hB'.lt g hg) (fun e=>?_))
   subst hg
   subst e
   rcases Nat.lt_or_ge i j with h1|h1
   ·exact h.apart i j g h1 hog hog'
   ·exact h.apart j i g (by omega) hog' hog
 ·refine hk k hk' (fun e=>?_)
  subst e
  have h1:=h.low i k hog
  have h2:=hB0.base_le k rfl
  omega
theorem Byt.kept {w w':World} {base:Nat} {og:Option Nat} {v:Value} {xs:List Int} {may:MemPlace→Prop} (h:Byt w base og v xs) (hk:w.keptBut w' may) (hm:∀ g j,og=some g→j<xs.length→¬ may (.cell g j)):Byt w' base og v xs:=by
 rcases h with h|⟨g,cap,cells,m,h1,h2,h3,h4,hh,h6,h7,hx,hcell⟩
 ·exact .inl h
 ·have hlt:=lt_of_block hh
  have hb:=hk.2.2 g hlt
  rw[hh] at hb
  cases hw:w'.heap[g]? with
  | none=>rw[hw] at hb;simp at hb
  | some o =>
   rw[hw] at hb
   cases o with
   | cells c t fr =>
    simp only at hb
    obtain⟨rfl,rfl,hs,hc⟩:=hb
    refine .inr ⟨g,cap,c,_,h1,h2,h3,h4,hw,by omega,h7,hx,fun i hi=>?_⟩
    rw[hc i (hm g i h1 hi)]
    exact hcell i hi
   | _=>simp at hb
theorem Byt.came {w:World} {base:Nat} {og:Option Nat} {v:Value} {xs:List Int} (h:Byt w base og v xs):∃ ao b cap,v=.slice ao xs.length cap∧Came w 1 ao b 0 xs.length cap (nums .u8 xs)∧cap≤maxLen∧(0<cap→og=some b):=by
 rcases h with ⟨_,rfl,rfl⟩|⟨g,cap,cells,m,h1,h2,h3,h4,hh,h6,h7,hx,hcell⟩
 ·exact⟨none,0,0,rfl,⟨Nat.le_refl _,fun h=>absurd h (by omega),fun h=>absurd h (by omega),rfl,fun j u hj=>by simp [nums] at hj,fun j hj=>by simp at hj⟩,Nat.zero_le _,fun h=>absurd h (by omega)⟩
 ·refine⟨_,g,cap,h2,⟨h4,fun _=>rfl,fun _=>lt_of_block hh,by simp [nums],fun j u hj=>?_,fun j hj=>?_⟩,hx,fun _=>h1⟩
  ·rw[nums,List.getElem?_map,Option.map_eq_some_iff] at hj
   obtain⟨x,hj,rfl⟩:=hj
   obtain⟨hjl,rfl⟩:=List.getElem?_eq_some_iff.1 hj
   simp only[World.cell?,hh,Nat.zero_add]
   rw[hcell j hjl]
   simp
  ·have hjc:0+xs.length*1+j<cells.size:=by omega
   refine⟨?_,?_⟩
   ·simp only[World.cell?,hh]
    rw[if_neg (by simp),Array.getElem?_eq_getElem hjc]
    rfl
   ·simp only[World.frozen?,hh]
    rcases h7 with h7|h7
    ·simp;omega
    ·simp;omega
theorem EntX.upon {w w':World} {base B:Nat} {v:Value} {vs:List Value} {ogs:List (Option Nat)} {es:List (List Int)} (h:EntX w base B v vs ogs es) {i:Nat} (hi:i<es.length) {u:Value} {og:Option Nat} (hu:vs[i]?=some u) (hog:ogs[i]?=some og)
  {ao:Option Addr} {b cap:Nat} (hcap:0<cap→og=some b) {v9:Value} {m:Nat} {ks:List Value} {r:Nat} (hU:Upon w 5 1 ao b 0 es[i].length cap (nums .u8 es[i]) w' v9 m ks r) :
  EntX w' base B v vs ogs es∧Side base B w w':=by
 obtain⟨u0,og0,hu0,hog0,hB0⟩:=h.each i hi
 rw[hu] at hu0
 rw[hog] at hog0
 injection hu0 with hu0
 injection hog0 with hog0
 subst hu0
 subst hog0
 have hm:∀ g j,og=some g→j<es[i].length→¬ (∃ j',j'<r∧MemPlace.cell g j=.cell b (0+es[i].length*1+j')):=by
  rintro g j hg hj ⟨j',_,e⟩
  injection e with e1 e2
  omega
 have hx:=hB0.kept hU.kept hm
 have:=h.upd hi hu hog hx hU.kept.1 hU.kept.2.1 hU.kept.size (fun k hk hne=>by
  refine hU.kept.block hk ?_
  rintro p ⟨j,hj,rfl⟩ e
  have e:b=k:=e
  exact hne (by rw[hcap (hU.capPos hj),e]))
 rw[List.set_getElem_self] at this
 exact this
theorem turned_l0 (xs:List Int) (hl:xs.length<9223372036854775807):∀ n i:Nat,i+n=xs.length→yb9.l0 (n+1) (xs.map tw) xs (i:Int)=some true:=by
 intro n
 induction n with
 | zero =>
  intro i h
  rw[yb9.l0,if_neg (by omega)]
 | succ n ih =>
  intro i h
  have hi:i<xs.length:=by omega
  rw[yb9.l0,if_pos (by omega),if_pos (by omega),if_pos (by rw[List.length_map];omega),ybj (xs:=xs.map tw) (by rw[List.length_map];exact hi),ybj hi,if_pos (by rw[List.getElem_map];rfl),w64s i (by omega)]
  exact ih (i+1) (by omega)
theorem yql (xs:List Int) (hl:xs.length<9223372036854775807):yb9.f (xs.length+1) (xs.map tw) xs=some true:=by
 unfold yb9.f
 rw[if_pos (by rw[List.length_map])]
 exact turned_l0 xs hl xs.length 0 (by omega)
def mixE (es:List (List Int)) (i:Nat):List (List Int):=(es.take i).map (fun s=>s.map tw)++es.drop i
theorem yg7 (es:List (List Int)) (i:Nat):(mixE es i).length=es.length:=by
 unfold mixE
 rw[List.length_append,List.length_map,List.length_take,List.length_drop]
 omega
theorem mixE_get (es:List (List Int)) (i:Nat) (hi:i<es.length):(mixE es i)[i]'(by rw[yg7];exact hi)=es[i]:=by
 have h:(mixE es i)[i]?=some es[i]:=by
  unfold mixE
  rw[List.getElem?_append_right (by rw[List.length_map,List.length_take];omega),List.length_map,List.length_take,Nat.min_eq_left (by omega),Nat.sub_self,List.getElem?_drop,Nat.add_zero,List.getElem?_eq_getElem hi]
 rw[List.getElem?_eq_getElem (by rw[yg7];exact hi)] at h
 injection h
theorem mixE_set (es:List (List Int)) (i:Nat) (hi:i<es.length):(mixE es i).set i (es[i].map tw)=mixE es (i+1):=by
 unfold mixE
 rw[← ybd es i hi,List.map_append,List.drop_eq_getElem_cons hi,List.set_append_right _ _ (by rw[List.length_map,List.length_take];omega),List.length_map,List.length_take,Nat.min_eq_left (by omega),Nat.sub_self,List.append_assoc]
 rfl
theorem mixE_zero (es:List (List Int)):mixE es 0=es:=by simp [mixE]
theorem mixE_all (es:List (List Int)):mixE es es.length=es.map (fun s=>s.map tw):=by simp [mixE]
theorem EntX.at {w:World} {base B:Nat} {ad:Addr} {n c:Nat} {vs:List Value} {ogs:List (Option Nat)} {es:List (List Int)} (h:EntX w base B (.slice (some ad) n c) vs ogs es) {i:Nat} (hi:i<es.length) :
  ∃ A' c' og,vs[i]?=some (.slice A' es[i].length c')∧ogs[i]?=some og∧Byt w base og (.slice A' es[i].length c') es[i]∧es[i].length≤c'∧Kd.C (Kd.int .u8) w A' es[i].length es[i]∧w.cell? (ad.add i)=some (.slice A' es[i].length c'):=by
 obtain⟨u,og,hu,hog,hB⟩:=h.each i hi
 obtain⟨A',c',rfl,hc',hC'⟩:=hB.reads
 refine⟨A',c',og,hu,hog,hB,hc',hC',?_⟩
 have h1:=h.row
 have hn:n=es.length:=by
  rcases h1.2 with ⟨h,_⟩|⟨g',cap',cur,h,_⟩
  ·cases h
  ·injection h
 subst hn
 rcases h1.2 with ⟨h',_⟩|⟨g,cap,cur,h',hg,hcur,_⟩
 ·cases h'
 ·injection h' with h' _ _
  injection h' with h'
  subst h'
  rw[ydl]
  exact(h1.cellAt (g:=g) i (by omega)).trans hu
theorem yn7 (base B:Nat) (v:Value) (vs:List Value) (ogs:List (Option Nat)) (es:List (List Int)) (A:Option Addr) (c:Nat) (w:World) (hE:EntX w base B v vs ogs es) (hW:∀ w',Side base B w w'→Kd.C (Kd.slice 5 (Kd.int .u8)) w' A es.length es) (hc:es.length≤c)
  (hn:es.length≤4096) (hes:∀ s∈es,s.length≤200) :
  Calls Tryz.prog 21 #[v,.slice A es.length c] w fun e w'=>e=.returned (.bool true)∧Side base B w w':=by
 obtain⟨A0,c0,rfl,hc0,_⟩:=hE.entB.reads
 go_enter Tryz.func21,Tryz.ntmps21
 go_upto_region 3 with (fail)
 go_wp2
 go_loopw [5] (fun vi wq=>∃ i:Nat,i≤es.length∧vi=.int .i64 i∧EntX wq base B (.slice A0 es.length c0) vs ogs es∧Side base B w wq) (fun vi _=>es.length-(intOf vi).toNat)
 case atStart=>exact⟨0,by omega,rfl,hE,Side.refl _ _ _⟩
 case round =>
  obtain⟨i,hi,rfl,hX,hS⟩:=hrel
  by_cases hlt:i<es.length
  ·have hCW:=hW wr hS
   obtain⟨ad,A3,c3,rfl,hx,hc3,hC3⟩:=yhl hCW (i:Int) (by omega) (by omega)
   rw[ygi hlt,Int.toNat_natCast] at hx
   rw[ygi hlt] at hc3 hC3
   obtain⟨ad0,rfl⟩:∃ ad0,A0=some ad0:=by
    rcases hX.row.2 with ⟨h',h2⟩|⟨g,cap,cur,h',_⟩
    ·omega
    ·injection h' with h' _ _;exact⟨_,h'⟩
   obtain⟨A4,c4,og,hu,hog,hB,hc4,hC4,hy⟩:=hX.at hlt
   have hsl:=hes es[i] (List.getElem_mem hlt)
   obtain⟨s,hs⟩:∃ s,s=es[i]:=⟨_,rfl⟩
   rw[← hs] at hx hc3 hC3 hc4 hC4 hy hsl
   have hcall:=fun W (hWb:Below wr.heap.size wr W)=>ya3.calls (s.length+1) A4 c4 s A3 c3 s true W (Kd.C_below hC4 hWb) hc4 (Kd.C_below hC3 hWb) hc3 (by rw[yo6 s s (by omega) _ (Nat.le_refl _)];simp)
   have HX:=Lib.hid hX
   have HLT:=Lib.hid hlt
   clear hu hog hB hC3 hC4 hs hCW hX hE
   go_upto_region 6 with (fail)
   go_quiet (first|(go_at_call 17;refine(hcall _ (by repeat (first|exact Below.refl _ _|apply yam|apply yab))).mono ?_;rintro e w4 ⟨rfl,⟨nd,rfl⟩⟩;(try first|exact⟨rfl,_,World.drewN_drewN _ _ _⟩|exact⟨rfl,_,Eq.trans (World.drewN_drewN _ _ _) (congrArg (World.drewN _) (Nat.add_assoc _ _ _))⟩)))
   go_wp2
   exact⟨⟨i+1,by omega,by go_num,HX.out.below (fun k hk=>(yab (Below.refl _ wr) nq).block k hk),hS.drewN nq⟩,by simp [intOf];omega⟩
  ·obtain rfl:i=es.length:=by omega
   clear hi hlt
   go_upto_region 8 with (fail)
   go_wp2
   go_loopw [6] (fun vi wq=>∃ i:Nat,i≤es.length∧vi=.int .i64 i∧EntX wq base B (.slice A0 es.length c0) vs ogs (mixE es i)∧Side base B w wq) (fun vi _=>es.length-(intOf vi).toNat)
   case atStart=>exact⟨0,by omega,rfl,by rw[mixE_zero];exact hX,hS⟩
   case round =>
    obtain⟨i,hi,rfl,hX,hS⟩:=hrel
    by_cases hlt:i<es.length
    ·obtain⟨ad0,rfl⟩:∃ ad0,A0=some ad0:=by
      rcases hX.row.2 with ⟨h',h2⟩|⟨g,cap,cur,h',_⟩
      ·rw[yg7] at h2;omega
      ·injection h' with h' _ _;exact⟨_,h'⟩
     obtain⟨A4,c4,og,hu,hog,hB,hc4,hC4,hy⟩:=hX.at (i:=i) (by rw[yg7];exact hlt)
     rw[mixE_get es i hlt] at hu hB hc4 hC4 hy
     have hsl:=hes es[i] (List.getElem_mem hlt)
     obtain⟨s,hs⟩:∃ s,s=es[i]:=⟨_,rfl⟩
     rw[← hs] at hu hB hc4 hC4 hy hsl
     have HX:=Lib.hid hX;have HLT:=Lib.hid hlt;have HS:=Lib.hid hs;have HU:=Lib.hid hu;have HOG:=Lib.hid hog;have HBY:=Lib.hid hB
     clear hu hog hB hC4 hs hX hE
     go_wp2_with (first
      | (go_at_call 35;refine(spoil_any base og _ s _ HBY.out (by omega)).mono ?_;rintro e w4 ⟨rfl,hB4,hg4⟩))
     have hlt:=HLT.out
     obtain⟨k1,k2⟩:=HX.out.upd (by rw[yg7];exact hlt) HU.out HOG.out hB4 hg4.os hg4.output hg4.size (fun k hk hne=>hg4.block k hk (fun e=>hne e.symm))
     rw[HS.out,mixE_set es i hlt] at k1
     exact⟨⟨i+1,by omega,by go_num,k1,hS.trans k2⟩,by simp [intOf];omega⟩
    ·obtain rfl:i=es.length:=by omega
     rw[mixE_all] at hX
     clear hi hlt
     obtain⟨te,hte⟩:∃ te,te=es.map (fun s=>s.map tw):=⟨_,rfl⟩
     have htl:te.length=es.length:=by rw[hte,List.length_map]
     have hts:∀ s∈te,s.length≤200:=by
      intro s hs
      rw[hte] at hs
      obtain⟨s',hs',rfl⟩:=List.mem_map.1 hs
      rw[List.length_map]
      exact hes s' hs'
     rw[← hte] at hX
     have HTE:=Lib.hid hte;have HTL:=Lib.hid htl
     clear hte htl
     go_upto_region 13 with (fail)
     go_wp2
     go_loopw [7,8] (fun v7 vi wq=>∃ (i m:Nat),i≤es.length∧vi=.int .i64 i∧v7=.int .i64 m∧m≤i*1000000∧EntX wq base B (.slice A0 es.length c0) vs ogs te∧Side base B w wq) (fun _ vi _=>es.length-(intOf vi).toNat)
     case atStart=>exact⟨0,0,by omega,rfl,rfl,by omega,hX,hS⟩
     case round =>
      obtain⟨i,m,hi,rfl,rfl,hm,hX,hS⟩:=hrel
      by_cases hlt:i<es.length
      ·have hlt2:i<te.length:=by have:=HTL.out;omega
       obtain⟨ad0,rfl⟩:∃ ad0,A0=some ad0:=by
        rcases hX.row.2 with ⟨h',h2⟩|⟨g,cap,cur,h',_⟩
        ·omega
        ·injection h' with h' _ _;exact⟨_,h'⟩
       obtain⟨A4,c4,og,hu,hog,hB,hc4,hC4,hy⟩:=hX.at hlt2
       have hsl:=hts te[i] (List.getElem_mem hlt2)
       obtain⟨ao,b,cap,hv,hCame,hcap,hcb⟩:=hB.came
       injection hv with hv1 _ hv2
       subst hv1
       subst hv2
       obtain⟨s,hs⟩:∃ s,s=te[i]:=⟨_,rfl⟩
       rw[← hs] at hu hc4 hy hsl hCame
       have HX:=Lib.hid hX;have HS:=Lib.hid hs;have HU:=Lib.hid hu;have HOG:=Lib.hid hog;have HCB:=Lib.hid hcb;have HCA:=Lib.hid hCame
       clear hu hog hB hC4 hs hX hE hcb hCame
       have hn8:i≤4096:=by omega
       go_upto_region 17 with (fail)
       go_wp2
       go_loopw [9,10] (fun v9 vk wq=>∃ (k:Nat) (ks:List Value) (r:Nat),k≤70∧vk=.int .i64 k∧Upon wr 5 1 A4 b 0 s.length c4 (nums .u8 s) wq v9 k ks r) (fun _ vk _=>70-(intOf vk).toNat)
       case atStart=>exact⟨0,[],0,by omega,rfl,Upon.start HCA.out⟩
       case round =>
        obtain⟨k,ks,r,hk,rfl,hU⟩:=hrel
        by_cases hlk:k<70
        ·obtain⟨A9,c9,rfl⟩:=hU.shape
         obtain⟨i0,hi0,hz0,hz1,hz2⟩:=info_parts ycj
         have HUP:=Lib.hid hU
         clear hU
         go_wp2_with (first|(at_builtin;refine wpList_append_upon _ rfl _ _ 25 25 rfl HCA.out i0 (.int .u8 0) 1 Tryz.underlying25 hi0 hz0 hz1 hz2 rfl rfl (HUP.out.alloc HCA.out _) _ 1 [.int .u8 (((k:Int)+(i:Int))%256)] rfl (Src.ofSlice _ Tryz.underlying25 _ 1 1 _ rfl (cell_one_new _ _ _) (by simp [Value.oneCell'])) (by unfold maxLen;omega) (by omega) ?_;intro v' w5 hU5))
         exact⟨⟨k+1,_,_,by omega,by go_num,hU5⟩,by simp [intOf];omega⟩
        ·obtain rfl:k=70:=by omega
         obtain⟨A9,c9,rfl⟩:=hU.shape
         have HUP:=Lib.hid hU
         clear hU
         go_wp2
         have hU:=HUP.out
         rw[HS.out] at hU
         obtain⟨k1,k2⟩:=HX.out.upon hlt2 HU.out HOG.out HCB.out hU
         exact⟨⟨i+1,m+(s.length+70),by omega,by go_num,by go_num,by omega,k1,hS.trans k2⟩,by simp [intOf];omega⟩
      ·obtain rfl:i=es.length:=by omega
       clear hi hlt
       have hm0:(0:Int)≤(m:Int):=by omega
       go_upto_region 22 with (fail)
       go_wp2
       go_loopw [11] (fun vi wq=>∃ i:Nat,i≤es.length∧vi=.int .i64 i∧EntX wq base B (.slice A0 es.length c0) vs ogs te∧Side base B w wq) (fun vi _=>es.length-(intOf vi).toNat)
       case atStart=>exact⟨0,by omega,rfl,hX,hS⟩
       case round =>
        obtain⟨i,hi,rfl,hX,hS⟩:=hrel
        by_cases hlt:i<es.length
        ·have hlt2:i<te.length:=by have:=HTL.out;omega
         have hCW:=hW wr hS
         obtain⟨ad,A3,c3,rfl,hx,hc3,hC3⟩:=yhl hCW (i:Int) (by omega) (by omega)
         rw[ygi hlt,Int.toNat_natCast] at hx
         rw[ygi hlt] at hc3 hC3
         obtain⟨ad0,rfl⟩:∃ ad0,A0=some ad0:=by
          rcases hX.row.2 with ⟨h',h2⟩|⟨g,cap,cur,h',_⟩
          ·omega
          ·injection h' with h' _ _;exact⟨_,h'⟩
         obtain⟨A4,c4,og,hu,hog,hB,hc4,hC4,hy⟩:=hX.at hlt2
         have hsl:=hes es[i] (List.getElem_mem hlt)
         have hts2:te[i]=es[i].map tw:=by simp only[HTE.out,List.getElem_map]
         obtain⟨s,hs⟩:∃ s,s=es[i]:=⟨_,rfl⟩
         obtain⟨t,ht⟩:∃ t,t=te[i]:=⟨_,rfl⟩
         rw[← hs] at hx hc3 hC3 hsl hts2
         rw[← ht] at hc4 hC4 hy hts2
         have hcall:=fun W (hWb:Below wr.heap.size wr W)=>yb9.calls (s.length+1) A4 c4 t A3 c3 s true W (Kd.C_below hC4 hWb) hc4 (Kd.C_below hC3 hWb) hc3 (by rw[hts2];exact yql s (by omega))
         have HX:=Lib.hid hX
         have HLT:=Lib.hid hlt
         clear hu hog hB hC3 hC4 hs ht hts2 hCW hX
         go_upto_region 25 with (fail)
         go_quiet (first|(go_at_call 36;refine(hcall _ (by repeat (first|exact Below.refl _ _|apply yam|apply yab))).mono ?_;rintro e w4 ⟨rfl,⟨nd,rfl⟩⟩;(try first|exact⟨rfl,_,World.drewN_drewN _ _ _⟩|exact⟨rfl,_,Eq.trans (World.drewN_drewN _ _ _) (congrArg (World.drewN _) (Nat.add_assoc _ _ _))⟩)))
         go_wp2
         exact⟨⟨i+1,by omega,by go_num,HX.out.below (fun k hk=>(yab (Below.refl _ wr) nq).block k hk),hS.drewN nq⟩,by simp [intOf];omega⟩
        ·obtain rfl:i=es.length:=by omega
         go_wp2
         go_ret
         exact⟨rfl,hS⟩
end Go.Proofs.YteeikgjjgfdjgaaGreat.PK
end
section
namespace Go.Proofs.YteeikgjjgfdjgaaGreat.PK
open Go.RowKit YteeikgjjgfdjgaaGreatW.PrintWords YteeikgjjgfdjgaaGreatW.PrintLast YteeikgjjgfdjgaaGreatW.PrintMore
set_option linter.unusedVariables false
set_option linter.unusedSimpArgs false
theorem yk1 {b:List Int} {w m:Nat} (hw:w≤64):U64s (ybq b w m).1:=by
 intro u hu
 have h0:=yk0 u hu
 refine⟨h0,?_⟩
 unfold ybq at hu
 repeat' split at hu
 all_goals first
  | (simp at hu;done)
  | (obtain⟨i,_,rfl⟩:=List.mem_map.1 hu
     have h1:le b / 2^(w*i)%2^w<2^w:=Nat.mod_lt _ (Nat.two_pow_pos w)
     have h2:2^w≤2^64:=Nat.pow_le_pow_right (by decide) hw
     have h3:le b / 2^(w*i)%2^w<18446744073709551616:=Nat.lt_of_lt_of_le h1 h2
     exact Int.ofNat_lt.2 h3)
theorem rnulls_l0 (p n:Nat) (hp:p≤100000) (hn:n≤4096):∀ m i:Nat,i+m=n→Ev (fun k=>ybn.l0 k (p:Int) (n:Int) (List.replicate i 0) (i:Int)) (List.replicate n 0,((p+1:Nat):Int),0):=by
 intro m
 induction m with
 | zero =>
  intro i h
  obtain rfl:i=n:=by omega
  exact Ev.step (fun k=>by rw[ybn.l0,if_neg (by omega),w64s p (by omega)]) (Ev.now _)
 | succ m ih =>
  intro i h
  refine Ev.step (fun k=>?_) (ih (i+1) (by omega))
  rw[ybn.l0,if_pos (by omega),if_pos (by rw[List.length_replicate];omega),w64s i (by omega),List.replicate_succ']
theorem rnulls_ev {b:List Int} (hb:Bys b) (hl:b.length≤65000) (p n:Nat) (hn:n≤4096) (hp:p≤b.length):Ev (fun k=>ybn.f k b (p:Int) (n:Int)) ((ybt b p n).1,((ybt b p n).2.1:Int),(ybt b p n).2.2):=by
 unfold ybt
 by_cases h1:b.length≤p
 ·rw[if_pos h1]
  exact Ev.same (fun k=>by unfold ybn.f;rw[if_pos (by omega)];rfl) (Ev.now _)
 rw[if_neg h1]
 have hlt:p<b.length:=by omega
 have hx:b.getD p 0=b[p]:=by rw[List.getD_eq_getElem?_getD,List.getElem?_eq_getElem hlt];rfl
 have hx2:=hb _ (List.getElem_mem hlt)
 rw[hx]
 by_cases h2:1<b[p]
 ·rw[if_pos h2]
  exact Ev.same (fun k=>by unfold ybn.f;rw[if_neg (by omega),if_pos (by omega),if_pos (by omega),ybj hlt,if_pos h2];rfl) (Ev.now _)
 rw[if_neg h2]
 by_cases h3:b[p]=0
 ·rw[if_pos h3]
  refine Ev.same (fun k=>?_) (rnulls_l0 p n (by omega) hn n 0 (by omega))
  unfold ybn.f
  rw[if_neg (by omega),if_pos (by omega),if_pos (by omega),ybj hlt,if_neg (by omega),if_pos h3]
  rfl
 rw[if_neg h3]
 have hf:∀ k,ybn.f k b (p:Int) (n:Int)=(if ((b.length-p-1:Nat):Int)<(((n+7) / 8:Nat):Int) then (some (([]:List Int),0,2)) else ((yag.f k b ((p+1:Nat):Int) ((p+1+(n+7) / 8:Nat):Int)).bind fun t646=>((yah.f k t646 1 (n:Int)).bind fun bt649=>(if bt649.2=0 then ((yal.f k bt649.1).bind fun t653=>(if t653=0 then (some (([]:List Int),0,5)) else (some (bt649.1,((p+1+(n+7) / 8:Nat):Int),0)))) else (some (([]:List Int),0,bt649.2)))))):=by
  intro k
  unfold ybn.f
  rw[if_neg (by omega),if_pos (by omega),if_pos (by omega),ybj hlt,if_neg (by omega),if_neg h3]
  have e1:wrap64 (wrap64 ((b.length:Int)-(p:Int))-1)=((b.length-p-1:Nat):Int):=by rw[w64 (n:=(b.length:Int)-(p:Int)) (by omega) (by omega),w64 (by omega) (by omega)];omega
  have e2:wrap64 (Int.tdiv (wrap64 ((n:Int)+7)) 8)=(((n+7) / 8:Nat):Int):=by rw[w64 (n:=(n:Int)+7) (by omega) (by omega),Int.tdiv_eq_ediv_of_nonneg (by omega),w64 (by omega) (by omega)];omega
  have e3:wrap64 ((p:Int)+1)=((p+1:Nat):Int):=w64s p (by omega)
  have e4:wrap64 (((p+1:Nat):Int)+(((n+7) / 8:Nat):Int))=((p+1+(n+7) / 8:Nat):Int):=by rw[w64 (by omega) (by omega)];omega
  rw[e1,e2,e3,e4]
 by_cases h4:b.length-p-1<(n+7) / 8
 ·rw[if_pos h4]
  exact Ev.same (fun k=>by rw[hf,if_pos (by omega)];rfl) (Ev.now _)
 rw[if_neg h4]
 have hpc:=yf1 b (p+1) (p+1+(n+7) / 8) (by omega) (by omega) (by omega)
 rw[Nat.add_sub_cancel_left] at hpc
 refine Ev.same (fun k=>by rw[hf,if_neg (by omega)]) (Ev.bind hpc ?_)
 have hup:=ymq ((hb.drop (p+1)).take ((n+7) / 8)) (by rw[List.length_take,List.length_drop];omega) (w:=1) (m:=n) (by decide) hn
 have hu:=yk1 (b:=(b.drop (p+1)).take ((n+7) / 8)) (w:=1) (m:=n) (by decide)
 have hul:=yhv (b:=(b.drop (p+1)).take ((n+7) / 8)) (w:=1) (m:=n)
 generalize ybq ((b.drop (p+1)).take ((n+7) / 8)) 1 n=r at *
 refine Ev.bind hup ?_
 by_cases h5:r.2=0
 ·rw[if_neg (by simpa using h5)]
  refine Ev.same (fun k=>by rw[if_pos h5]) (Ev.bind (ymz hu (by omega)) ?_)
  by_cases h6:widS r.1=0
  ·rw[if_pos h6]
   exact Ev.same (fun k=>by rw[if_pos (by omega)];rfl) (Ev.now _)
  ·rw[if_neg h6]
   exact Ev.same (fun k=>by rw[if_neg (by omega)]) (Ev.now _)
 ·rw[if_pos h5]
  exact Ev.same (fun k=>by rw[if_neg h5];rfl) (Ev.now _)
def finL {α:Type} (b:List Int) (X:List α×Nat×Int):List α×Int:=if X.2.2≠0 then ([],X.2.2) else if X.2.1<b.length then ([],3) else (X.1,0)
theorem ygs {α:Type} {b:List Int} {l:List α} {p:Nat} {e:Int} (h:e≠0):finL b (l,p,e)=([],e):=by unfold finL;rw[if_pos h]
theorem finL_ok {α:Type} (b:List Int) (l:List α) (p:Nat):finL b (l,p,0)=if p<b.length then ([],3) else (l,0):=by unfold finL;rw[if_neg (fun h=>h rfl)]
theorem yod {n q:Nat} (h:q≤n) (hn:n≤65000):IntKind.u64.wrap (wrap64 ((n:Int)-(q:Int)))=((n-q:Nat):Int):=by
 rw[w64 (by omega) (by omega),wraps_u64 _ (by omega) (by omega)];omega
theorem plus_i64 {q u:Nat} (h:q≤65000) (hu:u≤65000):wrap64 ((q:Int)+wrap64 (u:Int))=((q+u:Nat):Int):=by
 rw[w64 (n:=(u:Int)) (by omega) (by omega),w64 (by omega) (by omega)];omega
theorem rplain_l0 (kind:Int) {b:List Int} (hb:Bys b) (hl:b.length≤65000) (n:Nat) (hn:n≤4096):∀ (m i p:Nat) (out:List Cel),i+m=n→out.length=i→p≤b.length →
  Ev (fun k=>ybr.l0 k kind b (n:Int) out (p:Int) (i:Int)) (finL b (ydd kind b m p out)):=by
 intro m
 induction m with
 | zero =>
  intro i p out h ho hp
  rw[ydd,finL_ok]
  by_cases h1:p<b.length
  ·rw[if_pos h1]
   exact Ev.step (fun k=>by rw[ybr.l0,if_neg (by omega),if_pos (by omega)]) (Ev.now _)
  ·rw[if_neg h1]
   exact Ev.step (fun k=>by rw[ybr.l0,if_neg (by omega),if_neg (by omega)]) (Ev.now _)
 | succ m ih =>
  intro i p out h ho hp
  refine Ev.step (fun k=>by rw[ybr.l0,if_pos (by omega)]) (Ev.bind (yfe b p hb (by omega) hp) ?_)
  rw[ydd]
  have hle:=fun h=>(ycp hb (p:=p) h).1
  have hlt:=fun h=>ydz (p:=p) hb h
  generalize vget b p=g at *
  obtain⟨u,q,e⟩:=g
  simp only at *
  by_cases h1:e=0
  rotate_left
  ·rw[if_pos h1,ygs h1]
   exact Ev.same (fun k=>by rw[if_neg h1]) (Ev.now _)
  have hq:=hle h1
  have hu64:=hlt h1
  rw[if_neg (fun h=>h h1)]
  by_cases h6:kind≤6
  ·rw[if_pos h6]
   refine Ev.same (fun k=>?_) (ih (i+1) q (out++[yds (ycy u)]) (by omega) (by rw[List.length_append,ho];rfl) hq)
   rw[if_pos h1,if_pos h6,yi1 hu64,Option.bind_some,if_pos (by omega),w64s i (by omega)]
   rfl
  rw[if_neg h6]
  by_cases h2:200<u
  ·rw[if_pos h2,ygs (by decide)]
   exact Ev.same (fun k=>by rw[if_pos h1,if_neg h6,if_pos (by omega)]) (Ev.now _)
  rw[if_neg h2]
  by_cases h3:b.length-q<u
  ·rw[if_pos h3,ygs (by decide)]
   exact Ev.same (fun k=>by rw[if_pos h1,if_neg h6,if_neg (by omega),yod hq hl,if_pos (Int.ofNat_lt.2 h3)]) (Ev.now _)
  rw[if_neg h3]
  have h3i:¬ ((u:Int) > ((b.length-q:Nat):Int)):=fun h=>h3 (Int.ofNat_lt.1 h)
  have hu2:u≤65000:=by omega
  have hpc:=yf1 b q (q+u) (by omega) hq (by omega)
  rw[Nat.add_sub_cancel_left] at hpc
  have hrec:=ih (i+1) (q+u) (out++[ycw ((b.drop q).take u)]) (by omega) (by rw[List.length_append,ho];rfl) (by omega)
  refine Ev.same (g:=fun k=>(yag.f k b (q:Int) ((q+u:Nat):Int)).bind fun t=>ybr.l0 k kind b (n:Int) (out++[ycw t]) ((q+u:Nat):Int) ((i+1:Nat):Int)) (fun k=>?_) (Ev.bind hpc hrec)
  rw[if_pos h1,if_neg h6,if_neg (show ¬ (u:Int) > 200 by omega),yod hq hl,plus_i64 (Nat.le_trans hq hl) hu2,if_neg h3i]
  refine congrArg _ (funext fun t=>?_)
  rw[if_pos (show out.length<3518437208883 by omega),w64s i (by omega)]
  rfl
theorem rplain_ev (kind:Int) {b:List Int} (hb:Bys b) (hl:b.length≤65000) (n:Nat) (hn:n≤4096):Ev (fun k=>ybr.f k kind b (n:Int)) (yfy kind b n):=rplain_l0 kind hb hl n hn n 0 0 [] (by omega) rfl (by omega)
theorem yof (q:Nat) (h:q≤100000):IntKind.u64.wrap ((q:Int)+1)=((q+1:Nat):Int):=by rw[wraps_u64 _ (by omega) (by omega)];rfl
theorem rrunsd_l1 {b:List Int} (x4:Int) (z i:Nat) (v:Int) (m:Nat) (res) (out:List Int) (ho:out.length+m≤4096) (hi:i≤4096) (h:Ev (fun k=>yaq.l0 k b x4 (z:Int) (out++List.replicate m v) ((i+1:Nat):Int)) res) :
  ∀ d j:Nat,j+d=m→Ev (fun k=>yaq.l1 k b x4 (out++List.replicate j v) (i:Int) (m:Int) (z:Int) v (j:Int)) res:=by
 intro d
 induction d with
 | zero =>
  intro j hj
  obtain rfl:j=m:=by omega
  refine Ev.step (fun k=>?_) h
  rw[yaq.l1,if_neg (by omega),yof i (by omega)]
 | succ d ih =>
  intro j hj
  refine Ev.step (fun k=>?_) (ih (j+1) (by omega))
  rw[yaq.l1,if_pos (by omega),if_pos (by rw[List.length_append,List.length_replicate];omega),yof j (by omega),List.replicate_succ',List.append_assoc]
theorem last_at {out:List Int} (h:0<out.length):rd out ((out.length-1:Nat):Int)=out.getLast?.getD 0:=by
 rw[ybj (by omega),List.getLast?_eq_getElem?,List.getElem?_eq_getElem (by omega)]
 rfl
theorem rrunsd_l0 {b:List Int} (hb:Bys b) (hl:b.length≤65000) (n:Nat) (hn:n≤4096):∀ (m i p:Nat) (out:List Int),i+m=n→p≤b.length→out.length≤4096→i≤out.length→(i=0→out=[]) →
  Ev (fun k=>yaq.l0 k b (n:Int) (p:Int) out (i:Int)) (finL b (ycn b m p out)):=by
 intro m
 induction m with
 | zero =>
  intro i p out h hp ho hio hz
  rw[ycn,finL_ok]
  by_cases h1:p<b.length
  ·rw[if_pos h1]
   exact Ev.step (fun k=>by rw[yaq.l0,if_neg (by omega),if_pos (by omega)]) (Ev.now _)
  ·rw[if_neg h1]
   exact Ev.step (fun k=>by rw[yaq.l0,if_neg (by omega),if_neg (by omega)]) (Ev.now _)
 | succ m ih =>
  intro i p out h hp ho hio hz
  refine Ev.step (fun k=>by rw[yaq.l0,if_pos (by omega)]) (Ev.bind (yfe b p hb (by omega) hp) ?_)
  rw[ycn]
  have hle:=fun h=>(ycp hb (p:=p) h).1
  have hlt:=fun h=>ydz (p:=p) hb h
  generalize vget b p=g1 at *
  obtain⟨u,q,e0⟩:=g1
  simp only at *
  by_cases h1:e0=0
  rotate_left
  ·rw[if_pos h1,ygs h1]
   exact Ev.same (fun k=>by rw[if_neg h1]) (Ev.now _)
  have hq:=hle h1
  have hu64:=hlt h1
  rw[if_neg (fun h=>h h1)]
  refine Ev.same (fun k=>by rw[if_pos h1]) (Ev.bind (yfe b q hb (by omega) hq) ?_)
  have hle2:=fun h=>(ycp hb (p:=q) h).1
  generalize vget b q=g2 at *
  obtain⟨c,z,e2⟩:=g2
  simp only at *
  by_cases h2:e2=0
  rotate_left
  ·rw[if_pos h2,ygs h2]
   exact Ev.same (fun k=>by rw[if_neg h2]) (Ev.now _)
  have hz2:=hle2 h2
  rw[if_neg (fun h=>h h2)]
  refine Ev.same (fun k=>by rw[if_pos h2,yi1 hu64,Option.bind_some]) ?_
  generalize ycy u=v
  by_cases hc:c=0
  ·rw[if_pos hc,ygs (by decide)]
   refine Ev.same (fun k=>by rw[if_pos (by omega)]) (Ev.step (fun k=>?_) (Ev.now _))
   rw[yaq.j1,if_pos rfl]
  rw[if_neg hc]
  refine Ev.same (fun k=>by rw[if_neg (by omega)]) ?_
  have ew:IntKind.u64.wrap (wrap64 (4096-(out.length:Int)))=((4096-out.length:Nat):Int):=by rw[w64 (by omega) (by omega),wraps_u64 _ (by omega) (by omega)];omega
  have tailE:Ev (fun k=>yaq.j1 k b (n:Int) out (i:Int) (c:Int) (z:Int) v false) (finL b (if 4096-out.length<c then ([],0,4) else ycn b m z (out++List.replicate c v))):=by
   by_cases h4:4096-out.length<c
   ·rw[if_pos h4,ygs (by decide)]
    exact Ev.step (fun k=>by rw[yaq.j1,if_neg (by decide),ew,if_pos (Int.ofNat_lt.2 h4)]) (Ev.now _)
   ·rw[if_neg h4]
    have h4i:¬ ((c:Int) > ((4096-out.length:Nat):Int)):=fun h=>h4 (Int.ofNat_lt.1 h)
    have hr:=ih (i+1) z (out++List.replicate c v) (by omega) hz2 (by rw[List.length_append,List.length_replicate];omega) (by rw[List.length_append,List.length_replicate];omega) (fun h=>by omega)
    have hl1:=rrunsd_l1 (b:=b) (n:Int) z i v c _ out (by omega) (by omega) hr c 0 (by omega)
    rw[List.replicate_zero,List.append_nil] at hl1
    exact Ev.step (fun k=>by rw[yaq.j1,if_neg (by decide),ew,if_neg h4i];rfl) hl1
  clear ew
  by_cases hi0:0<i
  ·have hol:0<out.length:=by omega
   refine Ev.same (g:=fun k=>yaq.j1 k b (n:Int) out (i:Int) (c:Int) (z:Int) v (rd out ((out.length-1:Nat):Int) == v)) (fun k=>by
    have el:wrap64 ((out.length:Int)-1)=((out.length-1:Nat):Int):=by rw[w64 (by omega) (by omega)];omega
    rw[if_pos (by omega),el,if_pos (Int.natCast_nonneg _),if_pos (Int.ofNat_lt.2 (by omega))]) ?_
   rw[last_at hol]
   obtain⟨y,hy⟩:∃ y,out.getLast?=some y:=⟨out.getLast (fun e=>by rw[e] at hol;exact absurd hol (by decide)),List.getLast?_eq_some_getLast _⟩
   rw[hy,Option.getD_some]
   by_cases hyv:y=v
   ·subst hyv
    rw[if_pos rfl,ygs (by decide)]
    refine Ev.step (fun k=>?_) (Ev.now _)
    rw[yaq.j1,if_pos (by simp)]
   ·have hb1:(y == v)=false:=by simpa using hyv
    rw[hb1,if_neg (fun e=>hyv (by injection e))]
    exact tailE
  ·have ho0:=hz (by omega)
   subst ho0
   rw[show([]:List Int).getLast?=none from rfl,if_neg (by simp)]
   exact Ev.same (fun k=>by rw[if_neg (by omega)]) tailE
theorem rrunsd_ev {b:List Int} (hb:Bys b) (hl:b.length≤65000):Ev (fun k=>yaq.f k b) (ydj b):=by
 refine Ev.bind (yfe b 0 hb (by omega) (by omega)) ?_
 unfold ydj
 have hle:=fun h=>(ycp hb (p:=0) h).1
 generalize vget b 0=g at *
 obtain⟨n,q,e⟩:=g
 simp only at *
 by_cases h1:e=0
 ·have hq:=hle h1
  rw[if_neg (fun h=>h h1)]
  by_cases h2:4096<n
  ·rw[if_pos h2]
   exact Ev.same (fun k=>by rw[if_pos h1,if_pos (by omega)]) (Ev.now _)
  ·rw[if_neg h2]
   exact Ev.same (fun k=>by rw[if_pos h1,if_neg (by omega)];rfl) (rrunsd_l0 hb hl n (by omega) n 0 q [] (by omega) hq (by simp) (by simp) (fun _=>rfl))
 ·rw[if_pos h1]
  exact Ev.same (fun k=>by rw[if_neg h1]) (Ev.now _)
theorem above_bad {least d:Int} (hl:I64 least) (hd:0≤d∧d<18446744073709551616) (h:9223372036854775807-least<d):wrap64 (IntKind.u64.wrap (IntKind.u64.wrap least+d))<least:=by
 unfold I64 at hl
 rw[IntKind.wrap_u64,IntKind.wrap_u64]
 unfold wrap64
 omega
theorem yqf {least d:Int} (hl:I64 least) (hd:0≤d∧d<18446744073709551616) (h:¬ 9223372036854775807-least<d):wrap64 (IntKind.u64.wrap (IntKind.u64.wrap least+d))=least+d:=by
 unfold I64 at hl
 rw[IntKind.wrap_u64,IntKind.wrap_u64]
 unfold wrap64
 omega
theorem yqi {least d:Int} (hl:I64 least) (hd:0≤d∧d<18446744073709551616) (h:¬ 9223372036854775807-least<d):IntKind.u64.wrap (IntKind.u64.wrap (least+d)-IntKind.u64.wrap least)=d:=by
 unfold I64 at hl
 rw[IntKind.wrap_u64,IntKind.wrap_u64,IntKind.wrap_u64]
 omega
theorem rabove_ev {least:Int} (hL:I64 least) (us:List Int) (hu:U64s us) (hl:us.length≤4096):Ev (fun k=>yax.f k least us) (if (0:Int) ∉ us then ([],5) else yfp least us):=by
 have key:∀ m i:Nat,i+m=us.length→(∀ d∈us.take i,¬ 9223372036854775807-least<d)→Ev (fun k=>yax.l0 k least us ((us.take i).map fun d=>least+d) (decide ((0:Int)∈us.take i)) (i:Int)) (if (0:Int) ∉ us then ([],5) else yfp least us):=by
  intro m
  induction m with
  | zero =>
   intro i h hd
   rw[List.take_of_length_le (show us.length≤i by omega)] at hd ⊢
   have ha:yfp least us=(us.map fun d=>least+d,0):=by
    unfold yfp
    rw[if_neg (fun⟨d,h1,h2⟩=>hd d h1 h2)]
   by_cases h0:(0:Int)∈us
   ·rw[if_neg (fun h=>h h0),ha]
    exact Ev.step (fun k=>by rw[yax.l0,if_neg (by omega),if_pos (decide_eq_true h0)]) (Ev.now _)
   ·rw[if_pos h0]
    exact Ev.step (fun k=>by rw[yax.l0,if_neg (by omega),if_neg (by simpa using h0)]) (Ev.now _)
  | succ m ih =>
   intro i h hd
   have hi:i<us.length:=by omega
   have hx:=hu _ (List.getElem_mem hi)
   by_cases hbad:9223372036854775807-least<us[i]
   ·have ha:yfp least us=([],5):=by
     unfold yfp
     rw[if_pos ⟨_,List.getElem_mem hi,hbad⟩]
    have hr:(if (0:Int) ∉ us then (([]:List Int),(5:Int)) else yfp least us)=([],5):=by rw[ha];split <;> rfl
    rw[hr]
    refine Ev.step (g:=fun k=>yax.j1 k least us ((us.take i).map fun d=>least+d) (decide ((0:Int)∈us.take i)) (i:Int) (wrap64 (IntKind.u64.wrap (IntKind.u64.wrap least+us[i]))) true) (fun k=>?_) (Ev.step (fun k=>?_) (Ev.now _))
    ·rw[yax.l0,if_pos (by omega),if_pos (by omega),ybj hi,if_pos (above_bad hL hx hbad)]
    ·rw[yax.j1,if_pos rfl]
   ·have hg:=yqf hL hx hbad
    have hbk:=yqi hL hx hbad
    have hd':∀ d∈us.take (i+1),¬ 9223372036854775807-least<d:=by
     rw[← ybd us i hi]
     intro d hm
     rcases List.mem_append.1 hm with hm|hm
     ·exact hd d hm
     ·rw[List.mem_singleton.1 hm];exact hbad
    have hr:=ih (i+1) (by omega) hd'
    rw[← ybd us i hi,List.map_append] at hr
    have hlen:((us.take i).map fun d=>least+d).length≤4096:=by rw[List.length_map,List.length_take];omega
    refine Ev.step (g:=fun k=>yax.j1 k least us ((us.take i).map fun d=>least+d) (decide ((0:Int)∈us.take i)) (i:Int) (least+us[i]) false) (fun k=>?_) ?_
    ·rw[yax.l0,if_pos (by omega),if_pos (by omega),ybj hi,hg,if_neg (by omega),hbk]
     simp
    ·by_cases h0:us[i]=0
     ·refine Ev.step (fun k=>?_) hr
      rw[yax.j1,if_neg (by decide),if_pos (by omega),if_pos (by omega),ybj hi,if_pos h0,if_pos (by omega),w64s i (by omega)]
      have:decide ((0:Int)∈us.take i++[us[i]])=true:=decide_eq_true (List.mem_append_right _ (by rw[h0];simp))
      rw[this]
      rfl
     ·refine Ev.step (fun k=>?_) hr
      rw[yax.j1,if_neg (by decide),if_pos (by omega),if_pos (by omega),ybj hi,if_neg h0,if_pos (by omega),w64s i (by omega)]
      have:decide ((0:Int)∈us.take i++[us[i]])=decide ((0:Int)∈us.take i):=decide_eq_decide.2 ⟨fun h=>(List.mem_append.1 h).elim id (fun h=>absurd (List.mem_singleton.1 h).symm h0),fun h=>List.mem_append_left _ h⟩
      rw[this]
      rfl
 exact key us.length 0 (by omega) (fun d hd=>by simp at hd)
theorem rpkd_ev {b:List Int} (hb:Bys b) (hl:b.length≤65000):Ev (fun k=>ygd.f k b) (yet b):=by
 refine Ev.bind (yfe b 0 hb (by omega) (by omega)) ?_
 unfold yet
 have hle:=fun h=>(ycp hb (p:=0) h).1
 generalize vget b 0=g0 at *
 obtain⟨n,p,e1⟩:=g0
 simp only at *
 by_cases h1:e1=0
 rotate_left
 ·rw[if_pos h1]
  exact Ev.same (fun k=>by rw[if_neg h1]) (Ev.now _)
 have hp:=hle h1
 rw[if_neg (show ¬ e1≠0 from fun h=>h h1)]
 by_cases h2:4096<n
 ·rw[if_pos h2]
  exact Ev.same (fun k=>by rw[if_pos h1,if_pos (by omega)]) (Ev.now _)
 rw[if_neg h2]
 by_cases h3:n=0
 ·rw[if_pos h3]
  by_cases h4:p<b.length
  ·rw[if_pos h4]
   exact Ev.same (fun k=>by rw[if_pos h1,if_neg (by omega),if_pos (by omega),if_pos (by omega)]) (Ev.now _)
  ·rw[if_neg h4]
   exact Ev.same (fun k=>by rw[if_pos h1,if_neg (by omega),if_pos (by omega),if_neg (by omega)]) (Ev.now _)
 rw[if_neg h3]
 refine Ev.same (fun k=>by rw[if_pos h1,if_neg (by omega),if_neg (by omega)]) (Ev.bind (yfe b p hb (by omega) hp) ?_)
 have hle2:=fun h=>(ycp hb (p:=p) h).1
 have hlt2:=fun h=>ydz (p:=p) hb h
 generalize vget b p=g at *
 obtain⟨u,q,e2⟩:=g
 simp only at *
 by_cases h4:e2=0
 rotate_left
 ·rw[if_pos h4]
  exact Ev.same (fun k=>by rw[if_neg h4]) (Ev.now _)
 have hq:=hle2 h4
 have hu64:=hlt2 h4
 rw[if_neg (show ¬ e2≠0 from fun h=>h h4)]
 unfold yfl
 by_cases h5:b.length≤q
 ·rw[if_pos h5,if_pos (show(2:Int)≠0 by decide)]
  exact Ev.same (fun k=>by rw[if_pos h4,if_pos (by omega)]) (Ev.now _)
 rw[if_neg h5]
 have hlt:q<b.length:=by omega
 have hx:b.getD q 0=b[q]:=by rw[List.getD_eq_getElem?_getD,List.getElem?_eq_getElem hlt];rfl
 have hx2:=hb _ (List.getElem_mem hlt)
 have Eew:RowKit.Hid (wrap64 b[q]=b[q]):=Lib.hid (w64 (by omega) (by omega))
 have Een:RowKit.Hid (wrap64 (n:Int)=(n:Int)):=Lib.hid (w64 (by omega) (by omega))
 rw[hx]
 by_cases h6:64<b[q]
 ·rw[if_pos h6,if_pos (show(5:Int)≠0 by decide)]
  exact Ev.same (fun k=>by rw[if_pos h4,if_neg (by omega),if_pos (by omega),if_pos (by omega),ybj hlt,Eew.out,if_pos h6]) (Ev.now _)
 rw[if_neg h6]
 obtain⟨w,hw⟩:∃ w:Nat,b[q]=(w:Int):=⟨b[q].toNat,by omega⟩
 have hw64:w≤64:=by omega
 rw[hw,Int.toNat_natCast]
 have hpc:=yf1 b (q+1) b.length (by omega) (by omega) (by omega)
 rw[List.take_of_length_le (by rw[List.length_drop];exact Nat.le_refl _)] at hpc
 have hup:=ymq (hb.drop (q+1)) (by rw[List.length_drop];omega) (w:=w) (m:=n) hw64 (by omega)
 have hu:=yk1 (b:=b.drop (q+1)) (w:=w) (m:=n) hw64
 have hul:=yhv (b:=b.drop (q+1)) (w:=w) (m:=n)
 generalize ybq (b.drop (q+1)) w n=r at *
 refine Ev.same (g:=fun k=>(yag.f k b ((q+1:Nat):Int) (b.length:Int)).bind fun t706=>((yah.f k t706 (w:Int) (n:Int)).bind fun bt709=>(if bt709.2=0 then ((yal.f k bt709.1).bind fun t713=>(if t713=(w:Int) then ((yc1.f (u:Int)).bind fun t714=>((yax.f k t714 bt709.1).bind fun bt715=>(some (bt715.1,bt715.2)))) else (some (([]:List Int),5)))) else (some (([]:List Int),bt709.2))))) (fun k=>by
  rw[if_pos h4,if_neg (by omega),if_pos (by omega),if_pos (by omega),ybj hlt,hw,← hw,Eew.out,if_neg h6,hw,w64s q (by omega),Een.out]) (Ev.bind hpc (Ev.bind hup ?_))
 by_cases h7:r.2=0
 rotate_left
 ·rw[if_pos h7,if_pos h7]
  exact Ev.same (fun k=>by rw[if_neg h7]) (Ev.now _)
 rw[if_neg (show ¬ r.2≠0 from fun h=>h h7)]
 refine Ev.same (fun k=>by rw[if_pos h7]) (Ev.bind (ymz hu (by omega)) ?_)
 by_cases h8:widS r.1=w
 rotate_left
 ·rw[if_pos (Or.inl h8),if_pos (show(5:Int)≠0 by decide)]
  exact Ev.same (fun k=>by rw[if_neg (by omega)]) (Ev.now _)
 have hU:=ygv hu64
 refine Ev.same (g:=fun k=>(yax.f k (ycy u) r.1).bind fun bt=>some (bt.1,bt.2)) (fun k=>by rw[if_pos (by omega),yi1 hu64,Option.bind_some]) (Ev.bind (rabove_ev hU r.1 hu (by omega)) ?_)
 by_cases h9:(0:Int)∈r.1
 ·rw[if_neg (fun h=>h h9),if_neg (show ¬ (widS r.1≠w∨(0:Int) ∉ r.1) from fun h=>h.elim (fun h=>h h8) (fun h=>h h9)),if_neg (show ¬ (0:Int)≠0 by decide)]
  exact Ev.now _
 ·rw[if_pos h9,if_pos (Or.inr h9),if_pos (show(5:Int)≠0 by decide)]
  exact Ev.now _
theorem yla:∀ (k:Nat) (l t:List Int),k≤l.length→k≤yb4 l (l.take k++t)
 | 0,_,_,_=>Nat.zero_le _
 | k+1,[],_,h=>by simp at h
 | k+1,x::l,t,h=>by
  rw[List.take_succ_cons,List.cons_append,yb4,if_pos rfl]
  have:=yla k l t (by simpa using h)
  omega
theorem yro {b last:List Int} (hb:Bys b) (hl:b.length≤65000) (hll:last.length≤200) (p:Nat) (hp:p≤b.length) (whole:Bool) :
  Ev (fun k=>ya2.f k b (p:Int) last whole) ((ycc b p last whole).1,((ycc b p last whole).2.1:Int),(ycc b p last whole).2.2):=by
 unfold ycc ya2.f
 refine Ev.bind (yfe b p hb (by omega) hp) ?_
 have hle:=fun h=>(ycp hb (p:=p) h).1
 have hlt:=fun h=>ydz (p:=p) hb h
 generalize vget b p=g1 at *
 obtain⟨c,q,e0⟩:=g1
 simp only at *
 by_cases h1:e0=0
 rotate_left
 ·rw[if_pos h1]
  exact Ev.same (fun k=>by rw[if_neg h1];rfl) (Ev.now _)
 rw[if_neg (fun h=>h h1)]
 have hq:=hle h1
 have hc64:=hlt h1
 refine Ev.same (fun k=>by rw[if_pos h1]) (Ev.bind (yfe b q hb (by omega) hq) ?_)
 have hle2:=fun h=>(ycp hb (p:=q) h).1
 have hlt2:=fun h=>ydz (p:=q) hb h
 generalize vget b q=g2 at *
 obtain⟨m,z,e2⟩:=g2
 simp only at *
 by_cases h2:e2=0
 rotate_left
 ·rw[if_pos h2]
  exact Ev.same (fun k=>by rw[if_neg h2];rfl) (Ev.now _)
 rw[if_neg (fun h=>h h2)]
 have hto:=hle2 h2
 have hm64:=hlt2 h2
 have Eelast:RowKit.Hid (IntKind.u64.wrap (last.length:Int)=(last.length:Int)):=Lib.hid (wraps_u64 _ (by omega) (by omega))
 have j0t:Ev (fun k=>ya2.j0 k b last whole (c:Int) (m:Int) (z:Int) true) (([]:List Int),0,5):=Ev.step (fun k=>by rw[ya2.j0,if_pos rfl]) (Ev.now _)
 by_cases h3:last.length<c
 ·rw[if_pos (.inl h3)]
  exact Ev.same (fun k=>by rw[if_pos h2,Eelast.out,if_pos (by omega)]) j0t
 by_cases h4:whole=true∧0<c
 ·rw[if_pos (.inr h4)]
  refine Ev.same (fun k=>by rw[if_pos h2,Eelast.out,if_neg (by omega),if_pos h4.1]) ?_
  have:decide ((c:Int) > 0)=true:=decide_eq_true (by have:=h4.2;omega)
  rw[this]
  exact j0t
 rw[if_neg (fun h=>h.elim h3 h4)]
 have hc:c≤200:=by omega
 refine Ev.same (g:=fun k=>ya2.j0 k b last whole (c:Int) (m:Int) (z:Int) false) (fun k=>?_) ?_
 ·rw[if_pos h2,Eelast.out,if_neg (by omega)]
  cases whole
  ·rw[if_neg (by decide)]
  ·have h0:¬ 0<c:=fun h=>h4 ⟨rfl,h⟩
   rw[if_pos rfl,decide_eq_false (by omega)]
 have j1t:Ev (fun k=>ya2.j1 k b last whole (c:Int) (m:Int) (z:Int) true) (([]:List Int),0,4):=Ev.step (fun k=>by rw[ya2.j1,if_pos rfl]) (Ev.now _)
 by_cases h5:200<c+m
 ·rw[if_pos h5]
  by_cases h6:200<m
  ·exact Ev.step (fun k=>by rw[ya2.j0,if_neg (by decide),if_pos (by omega)]) j1t
  ·have Eec:RowKit.Hid (IntKind.u64.wrap ((c:Int)+(m:Int))=((c+m:Nat):Int)):=Lib.hid (by rw[wraps_u64 _ (by omega) (by omega)];omega)
   refine Ev.step (fun k=>?_) j1t
   rw[ya2.j0,if_neg (by decide),if_neg (by omega),Eec.out,decide_eq_true (show((c+m:Nat):Int) > 200 by omega)]
 rw[if_neg h5]
 have Eec:RowKit.Hid (IntKind.u64.wrap ((c:Int)+(m:Int))=((c+m:Nat):Int)):=Lib.hid (by rw[wraps_u64 _ (by omega) (by omega)];omega)
 have Eel:RowKit.Hid (IntKind.u64.wrap (wrap64 ((b.length:Int)-(z:Int)))=((b.length-z:Nat):Int)):=Lib.hid (by rw[w64 (by omega) (by omega),wraps_u64 _ (by omega) (by omega)];omega)
 have Eem:RowKit.Hid (wrap64 ((z:Int)+wrap64 (m:Int))=((z+m:Nat):Int)):=Lib.hid (by rw[w64 (n:=(m:Int)) (by omega) (by omega),w64 (by omega) (by omega)];omega)
 have Eek:RowKit.Hid (wrap64 (c:Int)=(c:Int)):=Lib.hid (w64 (by omega) (by omega))
 refine Ev.step (g:=fun k=>ya2.j1 k b last whole (c:Int) (m:Int) (z:Int) false) (fun k=>?_) ?_
 ·rw[ya2.j0,if_neg (by decide),if_neg (by omega),Eec.out,decide_eq_false (show ¬ ((c+m:Nat):Int) > 200 by omega)]
 by_cases h7:b.length-z<m
 ·rw[if_pos h7]
  exact Ev.step (fun k=>by rw[ya2.j1,if_neg (by decide),Eel.out,if_pos (by omega)];rfl) (Ev.now _)
 rw[if_neg h7]
 have hp1:=yf1 last 0 c (by omega) (by omega) (by omega)
 rw[List.drop_zero,Nat.sub_zero] at hp1
 have hp2:=yf1 b z (z+m) (by omega) hto (by omega)
 rw[Nat.add_sub_cancel_left] at hp2
 have hs:=yla c last ((b.drop z).take m) (by omega)
 have hcat:=cat_ev (last.take c) ((b.drop z).take m) (by rw[List.length_take,List.length_take,List.length_drop];omega)
 refine Ev.step (g:=fun k=>(yag.f k last 0 (c:Int)).bind fun t796=>((yag.f k b (z:Int) ((z+m:Nat):Int)).bind fun t799=>((yaz.f k t796 t799).bind fun t802=>(if whole=true then (some (t802,((z+m:Nat):Int),(0:Int))) else ((ybo.f k last t802).bind fun t805=>(if t805 > (c:Int) then (some (([]:List Int),0,5)) else (some (t802,((z+m:Nat):Int),0)))))))) (fun k=>?_) (Ev.bind hp1 (Ev.bind hp2 (Ev.bind hcat ?_)))
 ·rw[ya2.j1,if_neg (by decide),Eel.out,if_neg (by omega),Eem.out,Eek.out]
 generalize last.take c++(b.drop z).take m=s at *
 cases whole
 ·refine Ev.same (fun k=>by rw[if_neg (by decide)]) (Ev.bind (same11_ev last s (by omega)) ?_)
  by_cases h8:yb4 last s=c
  ·rw[if_neg (show ¬ (false=false∧yb4 last s≠c) from fun h=>h.2 h8)]
   exact Ev.same (fun k=>by rw[if_neg (by omega)]) (Ev.now _)
  ·rw[if_pos (show false=false∧yb4 last s≠c from⟨rfl,h8⟩)]
   have h9:yb4 last s > c:=by omega
   exact Ev.same (fun k=>by rw[if_pos (Int.ofNat_lt.2 h9)];rfl) (Ev.now _)
 ·rw[if_neg (show ¬ (true=false∧yb4 last s≠c) from fun h=>absurd h.1 (by decide))]
  exact Ev.same (fun k=>by rw[if_pos rfl]) (Ev.now _)
end Go.Proofs.YteeikgjjgfdjgaaGreat.PK
end
section
namespace Go.Proofs.YteeikgjjgfdjgaaGreat.PK
open Go.ChangeShapes Go.WideShapes Go.ChangeAt Go.RowKit Go.Deep YteeikgjjgfdjgaaGreatW.PrintWords
set_option linter.unusedVariables false
set_option linter.unusedSimpArgs false
theorem ynw:reachBytes=140737488351232:=by decide
theorem list_of {α:Type} {Q:Nat→α→Prop}:∀ n,(∀ i,i<n→∃ y,Q i y)→∃ l:List α,l.length=n∧∀ i y,l[i]?=some y→Q i y
 | 0,_=>⟨[],rfl,fun i y h=>(by simp at h)⟩
 | n+1,h=>by
  obtain⟨l,h1,h2⟩:=list_of n (fun i hi=>h i (by omega))
  obtain⟨y,hy⟩:=h n (by omega)
  refine⟨l++[y],by simp [h1],fun i z hz=>?_⟩
  by_cases hi:i<n
  ·rw[List.getElem?_append_left (by omega)] at hz
   exact h2 i z hz
  ·have:i=n:=by
    have:=(List.getElem?_eq_some_iff.1 hz).1
    simp [h1] at this
    omega
   subst this
   rw[List.getElem?_append_right (by omega),h1,Nat.sub_self] at hz
   simp at hz
   exact hz▸hy
section
variable {P:Program} {W:World}
def yiy (P:Program) (W:World) {α:Type} (t:TypeId) (k:Kd α) (G:α→Prop):Prop:=
 ∀ (H:Type) (enc:TypeId×Value→H) (fuel:Nat) (cs:List Value) (x:DataW H×List MemPlace),DataW.trod enc P W 0 (fun _=>true) true fuel t cs=some x→(x.1.weights P t).all (·≤reachBytes)=true→∃ a,k.K W a cs∧G a
theorem yiy.imp {α:Type} {t:TypeId} {k:Kd α} {G G':α→Prop} (h:yiy P W t k G) (hi:∀ a,G a→G' a):yiy P W t k G':=fun H enc fuel cs x hx hw=>by
 obtain⟨a,h1,h2⟩:=h H enc fuel cs x hx hw
 exact⟨a,h1,hi a h2⟩
theorem opens_int {t:TypeId} {q:IntKind} (ht:P.underlying t=some (.int q)):yiy P W t (Kd.int q) (fun n=>(Lit.int q n).wf=true):=by
 intro H enc fuel cs x hx hw
 cases fuel with
 | zero=>simp [DataW.trod] at hx
 | succ fuel =>
  unfold DataW.trod at hx
  rw[ht] at hx
  split at hx <;> simp_all
  rename_i k' n h1
  obtain⟨⟨rfl,h2⟩,_⟩:=hx
  exact⟨n,rfl,h2⟩
theorem yjg {H:Type} {e:TypeId}:∀ {l:List (DataW H)} {d:DataW H},d∈l→∀ n∈d.weights P e,n∈DataW.weightsAll P e l
 | [],d,hd,n,hn=>by cases hd
 | d0::l,d,hd,n,hn=>by
  rw[DataW.weightsAll,List.mem_append]
  rcases List.mem_cons.1 hd with rfl|hd
  ·exact .inl hn
  ·exact .inr (yjg hd n hn)
theorem ypu {α:Type} {t e:TypeId} {k:Kd α} {G:α→Prop} {B:Nat} (ht:P.underlying t=some (.slice e)) (hk:yiy P W e k G) (hc:P.cellsOf e=k.sz) (hB:P.bytesOf e=B):yiy P W t (Kd.slice e k) (fun l=>(∀ a∈l,G a)∧l.length*B≤140737488351232):=by
 intro H enc fuel cs x hx hw
 rcases open_slice ht hx with ⟨rfl,rfl⟩|⟨a,len,cap,m,n,D,Pl,rfl,_,hl,hm,hmm,rfl,hel⟩
 ·exact⟨[],⟨none,0,rfl,Nat.le_refl _,Kd.C_nil _ _⟩,⟨fun a ha=>(by cases ha),by simp⟩⟩
 ·simp only[if_true] at hmm
  subst hmm
  simp only[DataW.weights,ht,List.length_map,List.length_range,List.all_cons,Bool.and_eq_true,decide_eq_true_eq,List.all_append] at hw
  obtain⟨hw1,hw2,_⟩:=hw
  rw[hB] at hw1
  have hel':∀ i,i<len→∃ y c,c.length=k.sz∧(∀ j u,c[j]?=some u→W.cell? (a.add (i*k.sz+j))=some u)∧k.K W y c∧G y:=by
   intro i hi
   obtain⟨cs',h1,h2⟩:=hel i (by omega)
   obtain⟨_,hlen,hcell⟩:=World.cells?_some h1
   rw[hc] at hlen hcell
   obtain⟨y,hy,hG⟩:=hk H enc n cs' _ h2 (by
    rw[List.all_eq_true] at hw2 ⊢
    intro z hz
    exact hw2 z (yjg (List.mem_map.2 ⟨i,List.mem_range.2 hi,rfl⟩) z hz))
   refine⟨y,cs',hlen,fun j u hu=>?_,hy,hG⟩
   have hj:j<k.sz:=by rw[← hlen];exact(List.getElem?_eq_some_iff.1 hu).1
   have:=hcell j hj
   rw[hu] at this
   rw[← this]
   congr 1
   exact(Go.Deep.add_add _ _ _).symm
  obtain⟨l,hll,hlq⟩:=list_of len hel'
  refine⟨l,⟨some a,m,by rw[hll],by omega,⟨rfl,by rw[hll];unfold maxLen at hm;omega,fun _=>⟨a,rfl,fun j p hj=>?_⟩⟩⟩,fun y hy=>?_,?_⟩
  ·obtain⟨c,h1,h2,h3,_⟩:=hlq j p hj
   exact⟨c,h1,h3,h2⟩
  ·obtain⟨j,hj,rfl⟩:=List.mem_iff_getElem.1 hy
   exact(hlq j _ (List.getElem?_eq_getElem hj)).choose_spec.2.2.2
  ·rw[hll]
   have:=ynw
   refine Nat.le_trans (Nat.mul_le_mul_right _ (show len≤len+(m-len) by omega)) (by omega)
theorem open_var {α:Type} {H:Type} {enc:TypeId×Value→H} {t:TypeId} {k:Kd α} {G:α→Prop} (h:yiy P W t k G) {ts:List TypeId} {ds:List (DataW H)} {j:Nat} {d:DataW H} {v:Value} {ps:List MemPlace} (hsz:(DataW.weightsEach P ts ds).all (·≤reachBytes)=true) (ht:ts[j]?=some t) (hd:ds[j]?=some d)
  (hv:DataW.Trod enc P W 0 (fun _=>true) true t v d ps):∃ a,k.K W a v.cells.toList∧G a:=by
 obtain⟨fuel,hf⟩:=hv
 refine h H enc fuel _ _ hf ?_
 rw[List.all_eq_true] at hsz ⊢
 intro n hn
 exact hsz n (DataW.weights_mem_each ht hd n hn)
theorem slice_cells {α:Type} {e:Nat} {k:Kd α} {a:List α} {p:Option Addr} {len cap:Nat} (h:(Kd.slice e k).K W a (Value.slice p len cap).cells.toList):len=a.length∧a.length≤cap∧k.C W p a.length a:=by
 obtain⟨A,c,he,hl,hC⟩:=h
 simp [Value.cells] at he
 obtain⟨rfl,rfl,rfl⟩:=he
 exact⟨rfl,hl,hC⟩
end
end Go.Proofs.YteeikgjjgfdjgaaGreat.PK
end
section
namespace Go.Proofs.YteeikgjjgfdjgaaGreat.PK
open Go.ChangeShapes Go.WideShapes Go.ChangeAt Go.RowKit Go.Deep YteeikgjjgfdjgaaGreatW.PrintWords
set_option linter.unusedVariables false
set_option linter.unusedSimpArgs false
variable {W:World}
theorem byte_wf {n:Int} (h:(Lit.int .u8 n).wf=true):0≤n∧n<256:=by
 simp only[Lit.wf,IntKind.min,IntKind.max,IntKind.signed,IntKind.bits,Bool.and_eq_true,decide_eq_true_eq] at h
 simp at h
 omega
def okBytes (l:List Int):Prop:=Bys l∧l.length≤140737488351232
theorem opens_bytes:yiy Tryz.prog W 25 (Kd.slice 5 (Kd.int .u8)) okBytes:=
 (ypu (B:=1) Tryz.underlying25 (opens_int Tryz.underlying5) (by kernel_rfl) (by kernel_rfl)).imp fun l h=>⟨fun x hx=>byte_wf (h.1 x hx),by have:=h.2;omega⟩
end Go.Proofs.YteeikgjjgfdjgaaGreat.PK
end
section
namespace Go.Proofs.YteeikgjjgfdjgaaGreat.PK
open Go.RowKit Go.Deep YteeikgjjgfdjgaaGreatW.PrintWords
set_option linter.unusedVariables false
set_option linter.unusedSimpArgs false
theorem Hold.same {W w':World} (h:Hold W.heap.size W w') {p:MemPlace} (hp:p.block<W.heap.size):W.sameAt w' p:=by
 cases p with
 | cell b o=>exact World.cell?_of_block (w:=W) (h.block b hp hp)
 | map b=>exact h.block b hp hp
theorem Hold.frame {W w':World} (h:Hold W.heap.size W w') (may:MemPlace→Prop):W.keptBut w' may:=by
 refine⟨h.os,h.output,fun i hi=>?_⟩
 rw[h.block i hi hi]
 split <;> simp_all
theorem Hold.trod {H:Type} {enc:TypeId×Value→H} {P:Program} {t:TypeId} (hl:laidOutB P=true) (hr:P.readableRec t=true) (hrow:t<P.types.size) {W W':World} {v:Value} {d:DataW H} {ps:List MemPlace}
  (h:DataW.Trod enc P W 0 (fun _=>true) true t v d ps) (hb:Hold W.heap.size W W') (hlt:∀ x∈ps,x.block<W.heap.size) :
  DataW.Trod enc P W' 0 (fun b=>decide (b<W.heap.size)) true t v d ps:=
 WideElems.Trod_stays hl hr hrow h (fun x hx=>hb.same (hlt x hx)) (fun x hx=>by simpa using hlt x hx)
end Go.Proofs.YteeikgjjgfdjgaaGreat.PK
end
section
namespace Go.Proofs.YteeikgjjgfdjgaaGreat.PK
open Go.RowKit YteeikgjjgfdjgaaGreatW.PrintWords YteeikgjjgfdjgaaGreatW.PrintLast YteeikgjjgfdjgaaGreatW.PrintMore
set_option linter.unusedVariables false
set_option linter.unusedSimpArgs false
theorem alike_any (f0:Bool) (f1:Int) (s:List Int) (A B:Option Addr) (ca cb:Nat) (w:World) (hA:Kd.C (Kd.int .u8) w A s.length s) (hca:s.length≤ca) (hB:Kd.C (Kd.int .u8) w B s.length s) (hcb:s.length≤cb) (hl:s.length≤140737488355328) :
  Calls Tryz.prog 37 #[.agg #[.bool f0,.int .i64 f1,.slice A s.length ca],.agg #[.bool f0,.int .i64 f1,.slice B s.length cb]] w fun e w'=>e=.returned (.bool true)∧Below w.heap.size w w':=by
 have hu:=Tryz.underlying53
 obtain⟨k,hk⟩:=(same_ev s hl).ex
 have hs:=fun(w2:World) (hb:Below w.heap.size w w2)=>ya3.calls k A ca s B cb s true w2 (Kd.C_below hA hb) hca (Kd.C_below hB hb) hcb hk
 have HS:=Lib.hid hs
 clear hs hk hA hB
 generalize s.length=n at *
 go_enter Tryz.func37,Tryz.ntmps37
 go_wp2_with (go_at_call 17;refine(HS.out _ (by repeat (first|exact Below.refl _ _|apply yaj|apply yab|apply yam))).mono ?_;rintro e w1 ⟨rfl,hd1⟩;have hb1:=(fun(hx:Below w.heap.size w _)=>yae hx hx.size hd1.below) (by repeat (first|exact Below.refl _ _|apply yaj|apply yab|apply yam)))
 go_ret
 exact⟨rfl,hb1⟩
theorem yoq (A B:Option Addr) (ca cb:Nat) (cs:List Cel) (w:World) (hA:Kd.C k53 w A cs.length cs) (hca:cs.length≤ca) (hB:Kd.C k53 w B cs.length cs) (hcb:cs.length≤cb) (hl:cs.length≤140737488355328) (ht:∀ c∈cs,c.f2.length≤140737488355328) :
  Calls Tryz.prog 14 #[.slice A cs.length ca,.slice B cs.length cb] w fun e w'=>e=.returned (.bool true)∧Below w.heap.size w w':=by
 have HA:=Lib.hid hA;have HB:=Lib.hid hB
 clear hA hB
 go_enter Tryz.func14,Tryz.ntmps14
 go_wp2
 go_loopw [5] (fun vi wq=>∃ i:Nat,i≤cs.length∧vi=.int .i64 i∧RowKit.Hid (Below w.heap.size w wq)) (fun vi _=>cs.length-(intOf vi).toNat)
 case atStart=>exact⟨0,Nat.zero_le _,rfl,Lib.hid (Below.refl _ _)⟩
 case round =>
  obtain⟨i,hi9,rfl,HBR⟩:=hrel
  by_cases hlt:i<cs.length
  ·obtain⟨ad,A2,c2,rfl,hx0,hx1,hx2,hl2,hC2⟩:=yfv (Kd.C_below HA.out HBR.out) (i:Int) (by omega) (by omega)
   obtain⟨bd,B2,d2,rfl,hy0,hy1,hy2,hm2,hD2⟩:=yfv (Kd.C_below HB.out HBR.out) (i:Int) (by omega) (by omega)
   rw[yhk hlt,Int.toNat_natCast] at *
   have hal:=fun(w2:World) (hb:Below wr.heap.size wr w2)=>alike_any cs[i].f0 cs[i].f1 cs[i].f2 A2 B2 c2 d2 w2 (Kd.C_below hC2 hb) hl2 (Kd.C_below hD2 hb) hm2 (ht _ (List.getElem_mem hlt))
   generalize cs[i].f0=f0 at *
   generalize cs[i].f1=f1 at *
   generalize cs[i].f2.length=n at *
   have HX:=Lib.hid (fun(w2:World) (hb:Below wr.heap.size wr w2)=>(⟨(hb.cell (World.block_lt_of_cell? wr _ hx0)).trans hx0,(hb.cell (World.block_lt_of_cell? wr _ hx1)).trans hx1,(hb.cell (World.block_lt_of_cell? wr _ hx2)).trans hx2,(hb.cell (World.block_lt_of_cell? wr _ hy0)).trans hy0,(hb.cell (World.block_lt_of_cell? wr _ hy1)).trans hy1,(hb.cell (World.block_lt_of_cell? wr _ hy2)).trans hy2⟩:_∧_∧_∧_∧_∧_))
   have HAL:=Lib.hid hal;have HLT:=Lib.hid hlt
   clear hal hC2 hD2 hl2 hm2
   go_upto_region 6 with (fail)
   go_region_held3 (fun w'=>w'.cell? (ad.add (i*3))=some (.bool f0)∧w'.cell? ⟨(ad.add (i*3)).block,(ad.add (i*3)).off+1,none⟩=some (.int .i64 f1)∧w'.cell? ⟨(ad.add (i*3)).block,(ad.add (i*3)).off+2,none⟩=some (.slice A2 n c2)∧w'.cell? (bd.add (i*3))=some (.bool f0)∧w'.cell? ⟨(bd.add (i*3)).block,(bd.add (i*3)).off+1,none⟩=some (.int .i64 f1)∧w'.cell? ⟨(bd.add (i*3)).block,(bd.add (i*3)).off+2,none⟩=some (.slice B2 n d2)) (exact HX.out _ (by repeat (first|exact hbw|exact Below.refl _ _|apply yab|apply yam))) (first
    | (go_at_call 37;refine(HAL.out _ (by repeat (first|exact Below.refl _ _|apply yab|apply yam))).mono ?_;rintro e w1 ⟨rfl,hb1⟩;have hbw:Below wr.heap.size wr w1:=(fun(hx:Below wr.heap.size wr _)=>yae hx hx.size hb1) (by repeat (first|exact Below.refl _ _|apply yab|apply yam))))
   have HBW:=Lib.hid (yae HBR.out HBR.out.size hbw)
   clear hx0 hx1 hx2 hy0 hy1 hy2 hb1 hbw
   go_wp2
   go_roundw
   case rel=>exact⟨i+1,HLT.out,by go_num,HBW⟩
   case measure=>have:=HLT.out;simp [intOf];omega
  ·obtain rfl:i=cs.length:=by omega
   go_wp2
   go_ret
   exact⟨rfl,HBR.out⟩
theorem yog (l:List Int) (x:Int) (hl:l.length≤1000000):Ev (fun k=>yd3.f k l x) (decide (x∈l)):=by
 have h0:∀ n i:Nat,i+n=l.length→∃ r:Int,Ev (fun k=>ya5.l0 k l x (l.length:Int) (i:Int)) r∧(0≤r↔x∈l.drop i):=by
  intro n
  induction n with
  | zero =>
   intro i h
   refine⟨-1,Ev.step (fun k=>?_) (Ev.now _),?_⟩
   ·rw[ya5.l0,if_neg (by omega)]
   ·rw[List.drop_of_length_le (by omega)];simp
  | succ n ih =>
   intro i h
   have hi:i<l.length:=by omega
   have hrd:rd l (i:Int)=l[i]:=by unfold rd;rw[Int.toNat_natCast,List.getD_eq_getElem?_getD,List.getElem?_eq_getElem hi];rfl
   have hd:l.drop i=l[i]::l.drop (i+1):=List.drop_eq_getElem_cons hi
   by_cases h1:x=l[i]
   ·refine⟨(i:Int),Ev.step (fun k=>?_) (Ev.now _),?_⟩
    ·rw[ya5.l0,if_pos (by omega),if_pos (by omega),if_pos (by omega),hrd,if_pos h1]
    ·rw[hd,← h1];simp
   ·obtain⟨r,hr,hiff⟩:=ih (i+1) (by omega)
    refine⟨r,Ev.step (fun k=>?_) hr,?_⟩
    ·rw[ya5.l0,if_pos (by omega),if_pos (by omega),if_pos (by omega),hrd,if_neg h1,w64s i (by omega)]
    ·rw[hiff,hd,List.mem_cons]
     simp [h1]
 obtain⟨r,hr,hiff⟩:=h0 l.length 0 (by omega)
 have e:decide (x∈l)=decide (r≥0):=decide_eq_decide.2 (by rw[← List.drop_zero (l:=l),← hiff])
 rw[e]
 exact Ev.bind hr (Ev.now _)
def DistMade (w:World) (r:List Int×Int) (e:Ending) (w':World):Prop:=∃ v,e=.returned (.tuple #[v,.int .i64 r.2])∧Below w.heap.size w w'∧(r.2=0→Kd.R (Kd.int .u64) 63 w' w.heap.size (fun _=>True) v r.1)
theorem yp9 {b:List Int} {p n:Nat} (hp:p≤b.length):yfl b p n=yfl (b.drop p) 0 n:=by
 have h1:∀ q,b.drop (p+q)=(b.drop p).drop q:=fun q=>by rw[List.drop_drop]
 have h2:b.getD p 0=(b.drop p).getD 0 0:=by rw[List.getD_eq_getElem?_getD,List.getD_eq_getElem?_getD,List.getElem?_drop,Nat.add_zero]
 have h3:(b.length≤p)↔((b.drop p).length≤0):=by rw[List.length_drop];omega
 unfold yfl
 rw[h1,h2,show(0:Nat)+1=1 from rfl]
 by_cases h:b.length≤p
 ·rw[if_pos h,if_pos (h3.1 h)]
 ·rw[if_neg h,if_neg (fun x=>h (h3.2 x))]
theorem dist_any (A:Option Addr) (c:Nat) (l:List Int) (n:Nat) (w:World) (h:Kd.C (Kd.int .u8) w A l.length l) (hc:l.length≤c) (hb:Bys l) (hl:l.length≤65000) (hn:n≤4096) :
  Calls Tryz.prog 108 #[.slice A l.length c,.int .i64 n] w (DistMade w (yfl l 0 n)):=by
 unfold yfl
 by_cases h0:l.length≤0
 ·rw[if_pos h0]
  have h00:l.length=0:=by omega
  clear h hb
  go_enter Tryz.func108,Tryz.ntmps108
  go_wp2
  go_ret2
  exact⟨_,rfl,Below.refl _ _,fun h=>absurd h (by decide)⟩
 rw[if_neg h0]
 obtain⟨ad,rfl,hx0⟩:=Kd.at_int h (0:Int) (by omega) (by omega)
 have a0:ad.add 0=ad:=by simp [Addr.add]
 rw[show rd l (0:Int)=l.getD 0 0 from rfl,show(0:Int).toNat=0 from rfl,a0] at hx0
 have hpos:(0:Int)<(l.length:Int):=by omega
 have hpos2:0<l.length:=by omega
 have hxb:0≤l.getD 0 0∧l.getD 0 0<256:=by
  rw[List.getD_eq_getElem?_getD,List.getElem?_eq_getElem (show 0<l.length by omega)]
  exact hb _ (List.getElem_mem (by omega))
 have hne:l.length≠0:=by omega
 generalize hx:l.getD 0 0=x at *
 by_cases h1:64<x
 ·rw[if_pos h1]
  clear h hb hx
  go_enter Tryz.func108,Tryz.ntmps108
  go_wp2
  go_ret2
  exact⟨_,rfl,Below.refl _ _,fun h=>absurd h (by decide)⟩
 rw[if_neg h1]
 have hx9:=fun(W:World) (hb9:Below w.heap.size w W)=>(hb9.cell (World.block_lt_of_cell? w _ hx0)).trans hx0
 have HX9:=Lib.hid hx9
 clear hx9
 obtain⟨x,rfl⟩:∃ m:Nat,x=(m:Int):=⟨x.toNat,by omega⟩
 rw[Int.toNat_natCast,show 0+1=1 from rfl]
 have hwx:IntKind.i64.wrap (x:Int)=(x:Int):=ydm _ (by omega) (by omega)
 obtain⟨B1,hcut1,hB1,hcc1⟩:=ygt (some ad) c l 1 (by omega) hc
 rw[show((1:Nat):Int)=1 from rfl] at hcut1
 obtain⟨y,hy⟩:∃ y,y=l.drop 1:=⟨_,rfl⟩
 have hyl:y.length=l.length-1:=by rw[hy,List.length_drop]
 have hyb:Bys y:=by rw[hy];exact hb.drop 1
 rw[← hy] at hB1 ⊢
 obtain⟨ku,hku⟩:=(ymm hyb (by omega) (w:=x) (m:=n) (by omega) hn).ex
 have hpu:=@ygp y hyb x n
 generalize ybq y x n=ru at *
 obtain⟨us,er⟩:=ru
 simp only at hku hpu ⊢
 have hcall:=fun(w2:World) (hb2:Below w.heap.size w w2)=>yav.calls ku B1 (c-1) y (x:Int) (n:Int) us er w2 (by rw[hyl];exact Kd.C_below (hB1 w h) hb2) (by omega) hku
 rw[hyl] at hcall
 by_cases he:er=0
 ·subst he
  obtain⟨hul,huf,_⟩:=hpu rfl
  have hu64:U64s us:=fun u hu=>by
   have h1:=huf u hu
   have h2:(2:Int)^x≤2^64:=by exact_mod_cast Nat.pow_le_pow_right (by decide) (show x≤64 by omega)
   have h3:(2:Int)^64=18446744073709551616:=by decide
   constructor
   ·exact h1.1
   ·omega
  obtain⟨kw,hkw⟩:=(ykf hu64 (by omega)).ex
  obtain⟨kc,hkc⟩:=(yog us 0 (by omega)).ex
  rw[if_neg (by decide)]
  have hwu:=fun(A1:Option Addr) (c1:Nat) (w2:World) (hC:Kd.C (Kd.int .u64) w2 A1 us.length us) (hc1:us.length≤c1)=>ybb.calls kw A1 c1 us _ w2 hC hc1 hkw
  have hcu:=fun(A1:Option Addr) (c1:Nat) (w2:World) (hC:Kd.C (Kd.int .u64) w2 A1 us.length us) (hc1:us.length≤c1)=>yd3.calls kc A1 c1 us 0 _ w2 hC hc1 hkc
  by_cases hw0:widS us=x
  ·rw[hw0] at hwu
   by_cases hz:(0:Int)∈us
   ·rw[if_neg (by rintro(h|h) <;> first|exact h hw0|exact h hz)]
    rw[decide_eq_true hz] at hcu
    have HCA:=Lib.hid hcall;have HWU:=Lib.hid hwu;have HCU:=Lib.hid hcu
    clear h hb hx hcall hyl hyb hB1 hpu hku hy hwu hkw hu64 huf hw0 hul hcu hkc hz
    go_enter Tryz.func108,Tryz.ntmps108
    go_upto_region 5 with (fail)
    go_region_held3 (fun w'=>w'.cell? ad=some (.int .u8 (x:Int))) (exact HX9.out _ (by repeat (first|exact hb1|exact Below.refl _ _|apply yab|apply yam))) (first|(go_at_call 63;refine(HCA.out _ (by repeat (first|exact Below.refl _ _|apply yab|apply yam))).mono ?_;rintro e w1 ⟨v1,rfl,hR1',hb1'⟩;have hb1:=(fun(hx:Below w.heap.size w _)=>yae hx hx.size hb1') (by repeat (first|exact Below.refl _ _|apply yab|apply yam));have hR1:=(fun(hx:Below w.heap.size w _)=>Kd.R_lower hR1' hx.size) (by repeat (first|exact Below.refl _ _|apply yab|apply yam));obtain⟨A1,c1,rfl,hc1,hC1⟩:=Kd.R_reads hR1;clear hR1' hb1'))
    have hx1:=HX9.out _ hb1
    go_upto_region 6 with (fail)
    go_quiet (first|(go_at_call 64;refine(HWU.out A1 c1 _ (by repeat (first|exact hC1|apply Kd.C_drewN|apply Kd.C_drew)) hc1).mono ?_;rintro e w2 ⟨rfl,⟨nd,rfl⟩⟩;(try first|exact⟨rfl,_,World.drewN_drewN _ _ _⟩|exact⟨rfl,_,Eq.trans (World.drewN_drewN _ _ _) (congrArg (World.drewN _) (Nat.add_assoc _ _ _))⟩))|(go_at_call 136;refine(HCU.out A1 c1 _ (by repeat (first|exact hC1|apply Kd.C_drewN|apply Kd.C_drew)) hc1).mono ?_;rintro e w3 ⟨rfl,⟨nd,rfl⟩⟩;(try first|exact⟨rfl,_,World.drewN_drewN _ _ _⟩|exact⟨rfl,_,Eq.trans (World.drewN_drewN _ _ _) (congrArg (World.drewN _) (Nat.add_assoc _ _ _))⟩)))
    all_goals go_wp2
    all_goals go_ret2
    all_goals exact⟨_,rfl,by repeat (first|exact hb1|apply yab|apply yam),fun _=>by repeat (first|exact hR1|apply Kd.R_drewN|apply Kd.R_drew)⟩
   ·rw[if_pos (.inr hz)]
    rw[decide_eq_false hz] at hcu
    have HCA:=Lib.hid hcall;have HWU:=Lib.hid hwu;have HCU:=Lib.hid hcu
    clear h hb hx hcall hyl hyb hB1 hpu hku hy hwu hkw hu64 huf hw0 hul hcu hkc hz
    go_enter Tryz.func108,Tryz.ntmps108
    go_upto_region 5 with (fail)
    go_region_held3 (fun w'=>w'.cell? ad=some (.int .u8 (x:Int))) (exact HX9.out _ (by repeat (first|exact hb1|exact Below.refl _ _|apply yab|apply yam))) (first|(go_at_call 63;refine(HCA.out _ (by repeat (first|exact Below.refl _ _|apply yab|apply yam))).mono ?_;rintro e w1 ⟨v1,rfl,hR1',hb1'⟩;have hb1:=(fun(hx:Below w.heap.size w _)=>yae hx hx.size hb1') (by repeat (first|exact Below.refl _ _|apply yab|apply yam));have hR1:=(fun(hx:Below w.heap.size w _)=>Kd.R_lower hR1' hx.size) (by repeat (first|exact Below.refl _ _|apply yab|apply yam));obtain⟨A1,c1,rfl,hc1,hC1⟩:=Kd.R_reads hR1;clear hR1' hb1'))
    have hx1:=HX9.out _ hb1
    go_upto_region 6 with (fail)
    go_quiet (first|(go_at_call 64;refine(HWU.out A1 c1 _ (by repeat (first|exact hC1|apply Kd.C_drewN|apply Kd.C_drew)) hc1).mono ?_;rintro e w2 ⟨rfl,⟨nd,rfl⟩⟩;(try first|exact⟨rfl,_,World.drewN_drewN _ _ _⟩|exact⟨rfl,_,Eq.trans (World.drewN_drewN _ _ _) (congrArg (World.drewN _) (Nat.add_assoc _ _ _))⟩))|(go_at_call 136;refine(HCU.out A1 c1 _ (by repeat (first|exact hC1|apply Kd.C_drewN|apply Kd.C_drew)) hc1).mono ?_;rintro e w3 ⟨rfl,⟨nd,rfl⟩⟩;(try first|exact⟨rfl,_,World.drewN_drewN _ _ _⟩|exact⟨rfl,_,Eq.trans (World.drewN_drewN _ _ _) (congrArg (World.drewN _) (Nat.add_assoc _ _ _))⟩)))
    all_goals go_wp2
    all_goals go_ret2
    all_goals exact⟨_,rfl,by repeat (first|exact hb1|apply yab|apply yam),fun h=>absurd h (by decide)⟩
  ·rw[if_pos (.inl hw0)]
   have hwz:decide (((widS us:Nat):Int)=(x:Int))=false:=by simp;omega
   have hwb:(((widS us:Nat):Int) == (x:Int))=false:=by simp;omega
   have hwn:(((widS us:Nat):Int) != (x:Int))=true:=by simp;omega
   have hwd:¬ (((widS us:Nat):Int)=(x:Int)):=by omega
   generalize ((widS us:Nat):Int)=W0 at *
   have HCA:=Lib.hid hcall;have HWU:=Lib.hid hwu
   clear h hb hx hcall hyl hyb hB1 hpu hku hy hwu hkw hu64 huf hw0 hul hcu hkc
   go_enter Tryz.func108,Tryz.ntmps108
   go_upto_region 5 with (fail)
   go_region_held3 (fun w'=>w'.cell? ad=some (.int .u8 (x:Int))) (exact HX9.out _ (by repeat (first|exact hb1|exact Below.refl _ _|apply yab|apply yam))) (first|(go_at_call 63;refine(HCA.out _ (by repeat (first|exact Below.refl _ _|apply yab|apply yam))).mono ?_;rintro e w1 ⟨v1,rfl,hR1',hb1'⟩;have hb1:=(fun(hx:Below w.heap.size w _)=>yae hx hx.size hb1') (by repeat (first|exact Below.refl _ _|apply yab|apply yam));have hR1:=(fun(hx:Below w.heap.size w _)=>Kd.R_lower hR1' hx.size) (by repeat (first|exact Below.refl _ _|apply yab|apply yam));obtain⟨A1,c1,rfl,hc1,hC1⟩:=Kd.R_reads hR1;clear hR1' hb1'))
   have hx1:=HX9.out _ hb1
   go_upto_region 6 with (fail)
   go_quiet (first|(go_at_call 64;refine(HWU.out A1 c1 _ (by repeat (first|exact hC1|apply Kd.C_drewN|apply Kd.C_drew)) hc1).mono ?_;rintro e w2 ⟨rfl,⟨nd,rfl⟩⟩;(try first|exact⟨rfl,_,World.drewN_drewN _ _ _⟩|exact⟨rfl,_,Eq.trans (World.drewN_drewN _ _ _) (congrArg (World.drewN _) (Nat.add_assoc _ _ _))⟩)))
   all_goals go_wp2
   all_goals go_ret2
   all_goals exact⟨_,rfl,by repeat (first|exact hb1|apply yab|apply yam),fun h=>absurd h (by decide)⟩
 ·rw[if_pos he]
  have heb:(er == 0)=false:=by simpa using he
  have HCA:=Lib.hid hcall;have HE:=Lib.hid he
  clear h hb hx hcall hyl hyb hB1 hpu hku hy
  go_enter Tryz.func108,Tryz.ntmps108
  go_upto_region 5 with (fail)
  go_region_held3 (fun w'=>w'.cell? ad=some (.int .u8 (x:Int))) (exact HX9.out _ (by repeat (first|exact hb1|exact Below.refl _ _|apply yab|apply yam))) (first|(go_at_call 63;refine(HCA.out _ (by repeat (first|exact Below.refl _ _|apply yab|apply yam))).mono ?_;rintro e w1 ⟨v1,rfl,hR1',hb1'⟩;have hb1:=(fun(hx:Below w.heap.size w _)=>yae hx hx.size hb1') (by repeat (first|exact Below.refl _ _|apply yab|apply yam));have hR1:=(fun(hx:Below w.heap.size w _)=>Kd.R_lower hR1' hx.size) (by repeat (first|exact Below.refl _ _|apply yab|apply yam));obtain⟨A1,c1,rfl,hc1,hC1⟩:=Kd.R_reads hR1;clear hR1' hb1'))
  have hx1:=HX9.out _ hb1
  go_upto_region 6 with (fail)
  go_quiet (fail)
  all_goals go_wp2
  all_goals go_ret2
  all_goals exact⟨_,rfl,(by repeat (first|exact hb1|exact Below.refl _ _|apply yab|apply yam)),fun h=>absurd h HE.out⟩
end Go.Proofs.YteeikgjjgfdjgaaGreat.PK
end
