/-
  Parts of the proof: AKh, AKj, Cv.
-/
import Derived.Test.YteeikgjjgfdjgaaGreatV20
set_option maxHeartbeats 1000000
set_option maxRecDepth 100000
section
namespace Go.Proofs.YteeikgjjgfdjgaaGreat.PK
open Go.RowKit Go.Maps YteeikgjjgfdjgaaGreatW.PrintWords YteeikgjjgfdjgaaGreatW.PrintLast YteeikgjjgfdjgaaGreatW.PrintMore
set_option linter.unusedVariables false
set_option linter.unusedSimpArgs false
def Byt (w:World) (base:Nat) (og:Option Nat) (v:Value) (xs:List Int):Prop:=
 (og=none∧v=.slice none 0 0∧xs=[]) ∨
 ∃ g cap cells m,og=some g∧v=.slice (some ⟨g,0,none⟩) xs.length cap∧base≤g∧xs.length≤cap∧w.heap[g]?=some (Obj.cells cells 5 m)∧cap≤cells.size∧(cap≤m.1∨m.2≤m.1)∧cap≤maxLen∧∀ i (h:i<xs.length),cells[i]?=some (.int .u8 xs[i])
theorem Byt.of_own {w:World} {base n:Nat} {v:Value} {xs:List Int} (h:w.ownsRow base 5 1 v n (nums .u8 xs)):Byt w base v.ownBlock v xs:=by
 have hl:xs.length=n:=by have:=h.1;rw[ylc] at this;omega
 rcases h.2 with ⟨rfl,h2⟩|⟨g,cap,cur,rfl,hg,hcur,r1,r2,r3,r4⟩
 ·exact .inl ⟨rfl,rfl,List.eq_nil_of_length_eq_zero (by omega)⟩
 ·refine .inr ⟨g,cap,cur,(0,0),rfl,by rw[hl],hg,by omega,hcur,by omega,.inr (Nat.le_refl _),r2,fun i hi=>?_⟩
  have:=h.cellAt (g:=g) i (by omega)
  rw[nums,List.getElem?_map,List.getElem?_eq_getElem hi] at this
  simpa [World.cell?,hcur] using this
theorem Byt.keep {w w':World} {base og v xs} (h:Byt w base og v xs) (hb:∀ g,og=some g→w'.heap[g]?=w.heap[g]?):Byt w' base og v xs:=by
 rcases h with h|⟨g,cap,cells,m,h1,h2,h3,h4,h5,h6⟩
 ·exact .inl h
 ·exact .inr ⟨g,cap,cells,m,h1,h2,h3,h4,(hb g h1).trans h5,h6⟩
theorem Byt.lt {w:World} {base og v xs} (h:Byt w base og v xs):∀ g,og=some g→g<w.heap.size:=by
 rintro g rfl
 rcases h with h|⟨g',cap,cells,m,h1,h2,h3,h4,h5,h6⟩
 ·exact absurd h.1 (by simp)
 ·injection h1 with h1;subst h1;exact lt_of_block h5
theorem Byt.base_le {w:World} {base og v xs} (h:Byt w base og v xs):∀ g,og=some g→base≤g:=by
 rintro g rfl
 rcases h with h|⟨g',cap,cells,m,h1,h2,h3,h4,h5,h6⟩
 ·exact absurd h.1 (by simp)
 ·injection h1 with h1;subst h1;exact h3
theorem Byt.typed {w:World} {base og v xs} (h:Byt w base og v xs):∀ g,og=some g→∃ cells m,w.heap[g]?=some (Obj.cells cells 5 m):=by
 rintro g rfl
 rcases h with h|⟨g',cap,cells,m,h1,h2,h3,h4,h5,h6⟩
 ·exact absurd h.1 (by simp)
 ·injection h1 with h1;subst h1;exact⟨_,_,h5⟩
theorem Byt.lower {w:World} {base base' og v xs} (h:Byt w base og v xs) (hb:base'≤base):Byt w base' og v xs:=by
 rcases h with h|⟨g,cap,cells,m,h1,h2,h3,h4⟩
 ·exact .inl h
 ·exact .inr ⟨g,cap,cells,m,h1,h2,by omega,h4⟩
theorem Byt.reads {w:World} {base og v xs} (h:Byt w base og v xs):∃ A c,v=.slice A xs.length c∧xs.length≤c∧Kd.C (Kd.int .u8) w A xs.length xs:=by
 rcases h with ⟨_,rfl,rfl⟩|⟨g,cap,cells,m,h1,rfl,h3,h4,hh,h6,h7,hx,hcell⟩
 ·exact⟨none,0,rfl,Nat.le_refl _,Kd.C_nil _ _⟩
 ·refine⟨_,cap,rfl,h4,Kd.C_of_reads (d:=0) ⟨rfl,by unfold maxLen at hx;omega,fun _=>⟨_,rfl,fun j hj=>?_⟩⟩⟩
  rw[ydl]
  simp only[World.cell?,hh]
  rw[hcell j hj,List.getD_eq_getElem?_getD,List.getElem?_eq_getElem hj]
  simp
def EntB (w:World) (base:Nat) (v:Value) (es:List (List Int)):Prop:=
 ∃ (vs:List Value) (ogs:List (Option Nat)),w.ownsRow base 25 1 v es.length vs∧ogs.length=es.length∧(∀ (i j:Nat) (g:Nat),i<j→ogs[i]?=some (some g)→ogs[j]?≠some (some g)) ∧
  ∀ i (h:i<es.length),∃ u og,vs[i]?=some u∧ogs[i]?=some og∧Byt w base og u es[i]
theorem EntB.keep {w w':World} {base:Nat} {v:Value} {es:List (List Int)} (h:EntB w base v es) (hb:∀ k,base≤k→k<w.heap.size→w'.heap[k]?=w.heap[k]?):EntB w' base v es:=by
 obtain⟨vs,ogs,h1,h2,h4,h5⟩:=h
 refine⟨vs,ogs,yey h1 (fun k hk=>hb k (ydp h1 k hk) (yft h1 k hk)),h2,h4,fun i h=>?_⟩
 obtain⟨u,og,hu,hog,hB⟩:=h5 i h
 exact⟨u,og,hu,hog,hB.keep (fun g hg=>hb g (hB.base_le g hg) (hB.lt g hg))⟩
theorem EntB.below {w w':World} {base:Nat} {v:Value} {es:List (List Int)} (h:EntB w base v es) (hb:Below w.heap.size w w'):EntB w' base v es:=h.keep (fun k _ hk=>hb.block k hk)
theorem EntB.lower {w:World} {base base':Nat} {v:Value} {es:List (List Int)} (h:EntB w base v es) (hb:base'≤base):EntB w base' v es:=by
 obtain⟨vs,ogs,h1,h2,h4,h5⟩:=h
 refine⟨vs,ogs,yg3 h1 hb,h2,h4,fun i h=>?_⟩
 obtain⟨u,og,hu,hog,hB⟩:=h5 i h
 exact⟨u,og,hu,hog,hB.lower hb⟩
theorem EntB.nil (w:World) (base:Nat):EntB w base (.slice none 0 0) []:=⟨[],[],yho _ _ _ _,rfl,fun i j g _ h=>by simp at h,fun i h=>absurd h (by simp)⟩
theorem EntB.reads {w:World} {base:Nat} {v:Value} {es:List (List Int)} (hE:EntB w base v es):∃ A c,v=.slice A es.length c∧es.length≤c∧Kd.C (Kd.slice 5 (Kd.int .u8)) w A es.length es:=by
 obtain⟨vs,gs,h1,h2,h4,h6⟩:=hE
 obtain⟨A,c,rfl,hc,hcells⟩:=ygr h1
 have hn:es.length≤9223372036854775807:=by
  rcases h1.2 with ⟨_,h⟩|⟨g',cap',cur,he,_,_,h3,h5,_⟩
  ·omega
  ·simp only[maxLen] at h5
   omega
 refine⟨A,c,rfl,hc,rfl,hn,fun hp=>?_⟩
 obtain⟨g,_,_,rfl,hcl⟩:=hcells hp
 refine⟨_,rfl,fun j p hj=>?_⟩
 obtain⟨hjl,rfl⟩:=List.getElem?_eq_some_iff.1 hj
 obtain⟨u,og,hu,_,hM⟩:=h6 j hjl
 obtain⟨A',c',rfl,hc',hC'⟩:=hM.reads
 refine⟨[.slice A' es[j].length c'],rfl,⟨A',c',rfl,hc',hC'⟩,fun i x hx=>?_⟩
 cases i with
 | zero =>
  simp at hx
  subst hx
  have:=hcl j hjl
  rw[hu] at this
  rw[ydl]
  simpa [Kd.slice] using this
 | succ i=>simp at hx
theorem EntB.put {w0 w:World} {base g n c i:Nat} {u:Value} {og:Option Nat} {x:List Int} {es:List (List Int)} (hE:EntB w0 base (.slice (some ⟨g,0,none⟩) n c) es) (hb:Below w0.heap.size w0 w) (hu:Byt w w0.heap.size og u x) (hi:i<es.length) (hbase:base≤w0.heap.size) :
  EntB (w.setCell ⟨g,i,none⟩ u) base (.slice (some ⟨g,0,none⟩) n c) (es.set i x)∧w.grownBy (w.setCell ⟨g,i,none⟩ u) (some g):=by
 have hE1:=hE.below hb
 obtain⟨vs,ogs,h1,h2,h4,h6⟩:=hE
 have h1w:=yey h1 (fun k hk=>hb.block k (yft h1 k hk))
 have hn:n=es.length:=by
  rcases h1.2 with ⟨h,_⟩|⟨g',cap',cur,h,_⟩
  ·cases h
  ·injection h
 obtain⟨cells,hcells⟩:=ydt h1w g rfl
 obtain⟨hst,hgr⟩:=(hn▸h1w).stored i u
 refine⟨⟨vs.set i u,ogs.set i og,?_,by simpa using h2,fun a b g' hab ha hb'=>?_,fun j h=>?_⟩,hgr⟩
 ·rw[List.length_set,hn];exact hst
 ·rw[List.getElem?_set] at ha hb'
  have hold:∀ (j g:Nat),ogs[j]?=some (some g)→g<w0.heap.size:=by
   intro j g hj
   obtain⟨hjl,_⟩:=List.getElem?_eq_some_iff.1 hj
   obtain⟨u',og',_,hog',hB⟩:=h6 j (by omega)
   rw[hj] at hog'
   injection hog' with hog'
   exact hB.lt g hog'.symm
  have hnew:∀ g:Nat,og=some g→w0.heap.size≤g:=fun g hg=>hu.base_le g hg
  split at ha
  ·rename_i e1
   split at hb'
   ·omega
   ·split at ha
    ·injection ha with ha
     have:=hnew g' ha
     have:=hold b g' hb'
     omega
    ·cases ha
  ·split at hb'
   ·split at hb'
    ·injection hb' with hb'
     have:=hnew g' hb'
     have:=hold a g' ha
     omega
    ·cases hb'
   ·exact h4 a b g' hab ha hb'
 ·rw[List.length_set] at h
  have hkeep:∀ og' u' x' b',Byt w b' og' u' x'→Byt (w.setCell ⟨g,i,none⟩ u) b' og' u' x':=fun og' u' x' b' hM=>hM.keep (fun g' hg'=>hgr.block g' (hM.lt g' hg') (fun e=>by
   have e:g'=g:=by injection e
   subst e
   obtain⟨c',m',hc'⟩:=hM.typed g' hg'
   rw[hcells] at hc'
   injection hc' with hc'
   injection hc' with _ hc' _
   exact absurd hc' (by decide)))
  by_cases hij:i=j
  ·subst hij
   have hvl:i<vs.length:=by have:=h1.1;omega
   refine⟨u,og,?_,?_,?_⟩
   ·rw[List.getElem?_set_self hvl]
   ·rw[List.getElem?_set_self (by omega)]
   ·rw[List.getElem_set_self]
    exact(hkeep _ _ _ _ hu).lower hbase
  ·obtain⟨u',og',hu',hog',hB⟩:=h6 j h
   refine⟨u',og',by rw[List.getElem?_set_ne hij];exact hu',by rw[List.getElem?_set_ne hij];exact hog',?_⟩
   rw[List.getElem_set_ne hij]
   exact hkeep _ _ _ _ (hB.keep (fun g' hg'=>hb.block g' (hB.lt g' hg')))
theorem yom (l:List Bool) (hl:l.length≤1000000):Ev (fun k=>yd2.f k l false) (decide (false∈l)):=by
 have h0:∀ n i:Nat,i+n=l.length→∃ r:Int,Ev (fun k=>ybc.l0 k l false (l.length:Int) (i:Int)) r∧(0≤r↔false∈l.drop i):=by
  intro n
  induction n with
  | zero =>
   intro i h
   refine⟨-1,Ev.step (fun k=>?_) (Ev.now _),?_⟩
   ·rw[ybc.l0,if_neg (by omega)]
   ·rw[List.drop_of_length_le (by omega)];simp
  | succ n ih =>
   intro i h
   have hi:i<l.length:=by omega
   have hrd:rdOf false l (i:Int)=l[i]:=by unfold rdOf;rw[Int.toNat_natCast,List.getD_eq_getElem?_getD,List.getElem?_eq_getElem hi];rfl
   have hd:l.drop i=l[i]::l.drop (i+1):=List.drop_eq_getElem_cons hi
   by_cases h1:l[i]=false
   ·refine⟨(i:Int),Ev.step (fun k=>?_) (Ev.now _),?_⟩
    ·rw[ybc.l0,if_pos (by omega),if_pos (by omega),if_pos (by omega),hrd,h1,if_pos (by rfl)]
    ·rw[hd,h1];simp
   ·obtain⟨r,hr,hiff⟩:=ih (i+1) (by omega)
    refine⟨r,Ev.step (fun k=>?_) hr,?_⟩
    ·rw[ybc.l0,if_pos (by omega),if_pos (by omega),if_pos (by omega),hrd,if_neg (by simpa using h1),w64s i (by omega)]
    ·rw[hiff,hd,List.mem_cons]
     simp [h1]
 obtain⟨r,hr,hiff⟩:=h0 l.length 0 (by omega)
 have e:decide (false∈l)=decide (r≥0):=decide_eq_decide.2 (by rw[← List.drop_zero (l:=l),← hiff])
 rw[e]
 exact Ev.bind hr (Ev.now _)
theorem EntB.grown {w w1:World} {base g:Nat} {v:Value} {es:List (List Int)} (hE:EntB w base v es) (hg:w.grownBy w1 (some g)) {cells:Array Value} {t:Nat} {m:Nat×Nat} (hc:w.heap[g]?=some (Obj.cells cells t m)) (h55:t≠25) (h5:t≠5):EntB w1 base v es:=by
 obtain⟨vs,gs,h1,h2,h4,h6⟩:=hE
 refine⟨vs,gs,yey h1 (fun k hk=>?_),h2,h4,fun i h=>?_⟩
 ·refine hg.block k (yft h1 k hk) (fun e=>?_)
  have e:k=g:=by injection e
  subst e
  obtain⟨cells',hc'⟩:=ydt h1 k hk
  rw[hc] at hc'
  injection hc' with hc'
  injection hc' with _ hc' _
  exact h55 hc'
 ·obtain⟨u',og',hu',hog',hM'⟩:=h6 i h
  refine⟨u',og',hu',hog',hM'.keep (fun g' hg'=>hg.block _ (hM'.lt g' hg') (fun e=>?_))⟩
  have e:g'=g:=by injection e
  subst e
  obtain⟨cells',m',h7⟩:=hM'.typed g' hg'
  rw[hc] at h7
  injection h7 with h7
  injection h7 with _ h7 _
  exact h5 h7
theorem EntB.slot {w:World} {base g n c i:Nat} {es:List (List Int)} (hE:EntB w base (.slice (some ⟨g,0,none⟩) n c) es) (hi:i<es.length):(∃ u,w.cell? ⟨g,i,none⟩=some u)∧w.frozen? ⟨g,i,none⟩=false:=by
 obtain⟨vs,ogs,h1,h2,h4,h6⟩:=hE
 obtain⟨u,og,hu,_⟩:=h6 i hi
 have hn:n=es.length:=by
  rcases h1.2 with ⟨h,_⟩|⟨g',cap',cur,h,_⟩
  ·cases h
  ·injection h
 subst hn
 refine⟨⟨u,?_⟩,?_⟩
 ·have:=h1.cellAt (g:=g) i (by omega)
  exact this.trans hu
 ·rcases h1.2 with ⟨h',_⟩|⟨g',cap',cur,h',_,hh,_⟩
  ·cases h'
  ·have:g=g':=by injection h' with h';injection h' with h';injection h' with h'
   subst this
   simp [World.frozen?,hh]
theorem EntB.made (W:World) (base m:Nat) (hb:base≤W.heap.size) (hm:m≤1000000):EntB (W.alloc (.cells (madeCells #[.slice none 0 0] m) 25)) base (.slice (some ⟨W.heap.size,0,none⟩) m m) (List.replicate m []):=by
 have h:=yk4 (enc:=id) (d:=Value.slice none 0 0) W base 25 m hb (by omega)
 refine⟨encs id (List.replicate m (Value.slice none 0 0)),List.replicate m none,by rw[List.length_replicate];exact h,by simp,fun i j g _ hi=>?_,fun i hi=>⟨.slice none 0 0,none,?_,?_,.inl ⟨rfl,rfl,by simp⟩⟩⟩
 ·obtain⟨_,hi⟩:=List.getElem?_eq_some_iff.1 hi
  simp at hi
 ·rw[List.length_replicate] at hi
  rw[List.getElem?_eq_getElem (by simp [encs];exact hi)]
  simp [encs]
 ·rw[List.length_replicate] at hi
  rw[List.getElem?_eq_getElem (by simp;exact hi)]
  simp
theorem yi0 (A:Option Addr) (c:Nat) (xs:List Int) (w:World) (h:Kd.C (Kd.int .u8) w A xs.length xs) (hl:xs.length≤140737488355328) :
  Calls Tryz.prog 106 #[.slice A xs.length c] w fun e w'=>∃ A' c',e=.returned (.slice A' xs.length c')∧w'.ownsRow w.heap.size 5 1 (.slice A' xs.length c') xs.length (nums .u8 xs)∧Below w.heap.size w w':=by
 rcases A with _|ad
 ·have h0:xs=[]:=by
   rcases Nat.eq_zero_or_pos xs.length with h0|h0
   ·exact List.eq_nil_of_length_eq_zero h0
   ·obtain⟨ad,h,_⟩:=h.2.2 h0;cases h
  subst h0
  refine(Tryz.bytes_Clone_nil 0 c w).mono ?_
  rintro e w' ⟨rfl,rfl⟩
  exact⟨none,0,rfl,yho _ _ _ _,Below.refl _ _⟩
 ·refine(Tryz.bytes_Clone_at ad xs.length c xs w rfl hl (fun i hi=>?_)).mono ?_
  ·obtain⟨ad',e,hc⟩:=Kd.at_int h (i:Int) (by omega) (by omega)
   injection e with e
   subst e
   rw[ybj hi,Int.toNat_natCast] at hc
   rw[hc,List.getD_eq_getElem?_getD,List.getElem?_eq_getElem hi]
   rfl
  ·rintro e w' ⟨v',rfl,ho,_,hb⟩
   obtain⟨A',c',rfl⟩:=yh3 ho
   exact⟨A',c',rfl,ho,hb⟩
def txs (es:List (List Int)) (us:List Int) (i:Nat):List (List Int):=(List.range us.length).map fun j=>if j<i then es.getD (us.getD j 0).toNat [] else []
theorem txs_zero (es us):txs es us 0=List.replicate us.length []:=by
 apply List.ext_getElem
 ·simp [txs]
 ·intro j h1 h2
  simp [txs]
theorem yjo (es us i):(txs es us i).length=us.length:=by simp [txs]
theorem txs_all (es:List (List Int)) (us:List Int):txs es us us.length=us.map fun u=>es.getD u.toNat []:=by
 apply List.ext_getElem
 ·simp [txs]
 ·intro j h1 h2
  have h3:j<us.length:=by simpa [txs] using h1
  simp only[txs,List.getElem_map,List.getElem_range,if_pos h3]
  rw[show us.getD j 0=us[j] from by rw[List.getD_eq_getElem?_getD,List.getElem?_eq_getElem h3];rfl]
theorem txs_set (es:List (List Int)) (us:List Int) (i:Nat) (h:i<us.length):(txs es us i).set i (es.getD us[i].toNat [])=txs es us (i+1):=by
 apply List.ext_getElem
 ·simp [txs]
 ·intro j h1 h2
  rw[List.getElem_set]
  simp only[txs,List.getElem_map,List.getElem_range]
  by_cases h3:i=j
  ·subst h3
   rw[if_pos rfl,if_pos (by omega),show us.getD i 0=us[i] from by rw[List.getD_eq_getElem?_getD,List.getElem?_eq_getElem h];rfl]
  ·rw[if_neg h3]
   by_cases h4:j<i
   ·rw[if_pos h4,if_pos (by omega)]
   ·rw[if_neg h4,if_neg (by omega)]
def yfq (n:Nat) (us:List Int):List Bool:=(List.range n).map fun j:Nat=>decide ((j:Int)∈us)
theorem you (n:Nat) (us:List Int):false∈yfq n us↔¬ ∀ i<n,(i:Int)∈us:=by
 unfold yfq
 rw[List.mem_map]
 constructor
 ·rintro⟨j,hj,h⟩ hall
  rw[List.mem_range] at hj
  have:=hall j hj
  simp [this] at h
 ·intro h
  refine Classical.byContradiction fun hn=>h fun i hi=>Classical.byContradiction fun hni=>hn ⟨i,List.mem_range.2 hi,by simp [hni]⟩
theorem used_zero (n:Nat) (us:List Int):yfq n (us.take 0)=List.replicate n false:=by
 apply List.ext_getElem
 ·simp [yfq]
 ·intro j h1 h2
  simp [yfq]
theorem yrn (A B:Option Addr) (c d:Nat) (es:List (List Int)) (us:List Int) (w:World) (hr:Kd.C (Kd.slice 5 (Kd.int .u8)) w A es.length es) (hc:es.length≤c) (hU:Kd.C (Kd.int .u64) w B us.length us) (hd:us.length≤d)
  (hn:es.length≤4096) (hl:us.length≤4096) (hes:∀ s∈es,s.length≤200) (hu:∀ u∈us,0≤u∧u<18446744073709551616) :
  Calls Tryz.prog 111 #[.slice A es.length c,.slice B us.length d] w fun e w'=>∃ v,e=.returned (.tuple #[v,.int .i64 (yes es us).2])∧Below w.heap.size w w'∧EntB w' w.heap.size v (yes es us).1:=by
 have hm1:=yj0 (P:=Tryz.prog) 163 4 (.bool false) 1 Tryz.underlying163 info4 rfl (by decide) es.length (by omega)
 have hm2:=yj0 (P:=Tryz.prog) 46 25 (.slice none 0 0) 24 Tryz.underlying46 ygm rfl (by decide) us.length (by omega)
 have hR1:=yk4 (enc:=Value.bool) (d:=false) w w.heap.size 4 es.length (Nat.le_refl _) (by omega)
 rw[← used_zero es.length us] at hR1
 have hB1:Below w.heap.size w (w.alloc (.cells (madeCells #[.bool false] es.length) 4)):=(Below.refl _ w).alloc (Nat.le_refl _) _
 go_enter Tryz.func111,Tryz.ntmps111
 go_upto_region 2 with (fail)
 generalize (w.alloc (.cells (madeCells #[.bool false] es.length) 4))=wa at *
 have hE2:=EntB.made wa w.heap.size us.length hB1.size (by omega)
 have hb2:Below wa.heap.size wa (wa.alloc (.cells (madeCells #[.slice none 0 0] us.length) 25)):=(Below.refl _ wa).alloc (Nat.le_refl _) _
 have hB2:=yae hB1 hB1.size hb2
 have hR2:=yhh hR1 hb2
 rw[← txs_zero es us] at hE2
 clear hR1
 go_upto_region 3 with (fail)
 generalize (wa.alloc (.cells (madeCells #[.slice none 0 0] us.length) 25))=wb at *
 generalize wa.heap.size=gt at *
 clear hm1 hm2 hB1 hb2
 go_wp2
 go_loopw [18] (fun vi wq=>∃ i:Nat,i≤us.length∧vi=.int .i64 i∧(∀ u∈us.take i,u<es.length)∧wq.ownsRow w.heap.size 4 1 (.slice (some ⟨w.heap.size,0,none⟩) es.length es.length) es.length (encs Value.bool (yfq es.length (us.take i)))∧EntB wq w.heap.size (.slice (some ⟨gt,0,none⟩) us.length us.length) (txs es us i)∧Below w.heap.size w wq) (fun vi _=>us.length-(intOf vi).toNat)
 case atStart=>exact⟨0,by omega,rfl,by simp,hR2,hE2,hB2⟩
 case round =>
  obtain⟨i,hi,rfl,hall,hR,hE,hbr⟩:=hrel
  by_cases hlt:i<us.length
  ·obtain⟨ad,rfl,hx0⟩:=Kd.at_int hU (i:Int) (by omega) (by omega)
   rw[ybj hlt,Int.toNat_natCast] at hx0
   have hx:=(hbr.cell (World.block_lt_of_cell? w _ hx0)).trans hx0
   obtain⟨u,hui⟩:∃ u,u=us[i]:=⟨_,rfl⟩
   rw[← hui] at hx
   obtain⟨hu0,hu1⟩:=hu u (by rw[hui];exact List.getElem_mem hlt)
   have HU:=Lib.hid hui;have HA:=Lib.hid hall;have HR:=Lib.hid hR;have HE:=Lib.hid hE
   by_cases h1:u<es.length
   ·have HU0:=Lib.hid hu;have HES:=Lib.hid hes
    clear hui hall hR hE hx0 hU hu hes
    go_upto_region 8 with (fail)
    have hu:=HU0.out;have hes:=HES.out;have hui:=HU.out;have hR:=HR.out
    obtain⟨k,rfl⟩:=Int.eq_ofNat_of_zero_le hu0
    have hk:k<es.length:=by omega
    obtain⟨hcu,hfu⟩:=ym2 (d:=false) hR (k:Int) (by omega) (by omega)
    rw[Int.toNat_natCast] at hcu hfu
    have HLT:=Lib.hid hlt
    clear hR
    obtain⟨ad2,A3,c3,rfl,hy0,hc3,hC0⟩:=yhl hr (k:Int) (by omega) (by omega)
    rw[ygi hk,Int.toNat_natCast] at hy0
    rw[ygi hk] at hc3 hC0
    obtain⟨s,hs⟩:∃ s,s=es[k]:=⟨_,rfl⟩
    rw[← hs] at hy0 hc3 hC0
    have hsl:=hes s (by rw[hs];exact List.getElem_mem hk)
    have HS:=Lib.hid hs
    generalize rdOf false (yfq es.length (us.take i)) (k:Int)=b0 at hcu
    clear hs hui hu hes
    go_upto_region 9 with (fail)
    obtain⟨hst,hgr⟩:=yka (enc:=Value.bool) HR.out (k:Int) true
    rw[Int.toNat_natCast] at hst hgr
    have hset:=yn6 es.length i us HLT.out (by rw[← HU.out];omega)
    rw[← HU.out,Int.toNat_natCast] at hset
    rw[show(yfq es.length (us.take i)).set k true=yfq es.length (us.take (i+1)) from hset] at hst
    obtain⟨cells,hcells⟩:=ydt HR.out w.heap.size rfl
    have hE3:=HE.out.grown hgr hcells (by decide) (by decide)
    have hb3:Below w.heap.size w (wr.setCell ⟨w.heap.size,k,none⟩ (.bool true)):=hbr.grown hgr hbr.size (fun k' hk'=>by injection hk' with hk';omega)
    clear hcells HR HE hset
    generalize wr.setCell ⟨w.heap.size,k,none⟩ (.bool true)=wc at *
    have hy:=(hb3.cell (World.block_lt_of_cell? w _ hy0)).trans hy0
    have hC3:=Kd.C_below hC0 hb3
    have hR3:=Lib.hid hst
    have hE3H:=Lib.hid hE3
    clear hy0 hC0 hst hr hgr hx hcu hfu hbr
    have hslot:=hE3.slot (i:=i) (by rw[yjo];exact HLT.out)
    clear hE3
    go_wp2_with (first
     | (go_at_call 106;refine(yi0 A3 c3 s _ hC3 (by omega)).mono ?_;rintro e wd ⟨A5,c5,rfl,ho,hb4⟩;have hE4:=hE3H.out.below hb4;obtain⟨⟨u5,hcell5⟩,hfr5⟩:=hE4.slot (i:=i) (by rw[yjo];exact HLT.out);have hE4H:=Lib.hid hE4;clear hE4))
    have hlt:=HLT.out
    have hui:=HU.out
    have hs:=HS.out
    obtain⟨hp,hgr⟩:=EntB.put hE3H.out hb4 (Byt.of_own ho) (by rw[yjo];exact hlt) hb3.size
    have hsx:s=es.getD us[i].toNat []:=by
     rw[← hui,Int.toNat_natCast,List.getD_eq_getElem?_getD,List.getElem?_eq_getElem hk,hs]
     rfl
    have hset:(txs es us i).set i s=txs es us (i+1):=by rw[hsx];exact txs_set es us i hlt
    rw[hset] at hp
    refine⟨⟨i+1,by omega,by go_num,fun u' hu'=>?_,?_,hp,?_⟩,by simp [intOf];omega⟩
    ·rw[← ybd us i hlt] at hu'
     rcases List.mem_append.1 hu' with hu'|hu'
     ·exact HA.out u' hu'
     ·rw[List.mem_singleton.1 hu',← hui];exact h1
    ·obtain⟨vs,ogs,h7,_⟩:=hE4H.out
     have h8:=yhh hR3.out hb4
     exact yip h8 hgr (yhx h8 h7 (by decide))
    ·obtain⟨vs,ogs,h7,_⟩:=hE4H.out
     have h9:=yae hb3 hb3.size hb4
     exact h9.grown hgr h9.size (fun k' hk'=>ydp h7 k' hk')
   ·have ht:yes es us=([],5):=by
     unfold yes
     rw[if_neg (fun hc=>h1 (by rw[hui];exact hc.1 us[i] (List.getElem_mem hlt)))]
    have HT:=Lib.hid ht
    clear hx0 hU hr hui hall hR hE ht
    go_wp2
    go_ret2
    rw[HT.out]
    exact⟨_,rfl,hbr,EntB.nil _ _⟩
  ·obtain rfl:i=us.length:=by omega
   rw[List.take_length] at hall hR
   rw[txs_all] at hE
   have hul:(yfq es.length us).length=es.length:=by simp [yfq]
   obtain⟨kc,hkc⟩:=(yom (yfq es.length us) (by omega)).ex
   have hRB:Kd.R Kd.bool 4 wr w.heap.size (fun _=>True) (.slice (some ⟨w.heap.size,0,none⟩) es.length es.length) (yfq es.length us):=Kd.R_of_own (by rw[hul];exact hR) (fun _ _=>trivial)
   have hCB:=(Kd.R_reads' hRB).2.2
   by_cases hP:∀ i<es.length,(i:Int)∈us
   ·have hr0:decide (false∈yfq es.length us)=false:=decide_eq_false (fun hc=>(you es.length us).1 hc hP)
    have ht:yes es us=(us.map fun u=>es.getD u.toNat [],0):=by
     unfold yes
     rw[if_pos ⟨hall,hP⟩]
    rw[hr0] at hkc
    have hcon:=yd2.calls kc (some ⟨w.heap.size,0,none⟩) es.length (yfq es.length us) false false wr hCB (by omega) hkc
    rw[hul] at hcon
    have HT:=Lib.hid ht;have HE:=Lib.hid hE
    clear ht hE hP hall hRB hCB hR hr hU hu hes hul hr0 hkc
    go_wp2_with (first
     | (go_at_call 138;refine hcon.mono ?_;rintro e wd ⟨rfl,hD⟩))
    go_ret2
    rw[HT.out]
    exact⟨_,rfl,yae hbr hbr.size hD.below,HE.out.below hD.below⟩
   ·have hr0:decide (false∈yfq es.length us)=true:=decide_eq_true ((you es.length us).2 hP)
    have ht:yes es us=([],5):=by
     unfold yes
     rw[if_neg (fun hc=>hP hc.2)]
    rw[hr0] at hkc
    have hcon:=yd2.calls kc (some ⟨w.heap.size,0,none⟩) es.length (yfq es.length us) false true wr hCB (by omega) hkc
    rw[hul] at hcon
    have HT:=Lib.hid ht
    clear ht hE hP hall hRB hCB hR hr hU hu hes hul hr0 hkc
    go_wp2_with (first
     | (go_at_call 138;refine hcon.mono ?_;rintro e wd ⟨rfl,hD⟩))
    go_ret2
    rw[HT.out]
    exact⟨_,rfl,yae hbr hbr.size hD.below,EntB.nil _ _⟩
def yg0 (w:World) (vs:List Value) (es:List (List Int)):Prop:=
 vs.length=es.length∧∀ j (h:j<es.length),∃ A c,vs[j]?=some (.slice A es[j].length c)∧es[j].length≤c∧Kd.C (Kd.int .u8) w A es[j].length es[j]
theorem yg0.nil (w:World):yg0 w [] []:=⟨rfl,fun j h=>absurd h (by simp)⟩
theorem yg0.snoc {w:World} {vs:List Value} {es:List (List Int)} {A:Option Addr} {c:Nat} {x:List Int} (h:yg0 w vs es) (hc:x.length≤c) (hC:Kd.C (Kd.int .u8) w A x.length x):yg0 w (vs++[.slice A x.length c]) (es++[x]):=by
 refine⟨by simp [h.1],fun j hj=>?_⟩
 rcases Nat.lt_or_ge j es.length with h1|h1
 ·obtain⟨A',c',h2,h3⟩:=h.2 j h1
  refine⟨A',c',?_,?_⟩
  ·rw[List.getElem?_append_left (by have:=h.1;omega),List.getElem_append_left h1];exact h2
  ·rw[List.getElem_append_left h1];exact h3
 ·have:j=es.length:=by simp at hj;omega
  subst this
  refine⟨A,c,?_,?_⟩
  ·rw[List.getElem?_append_right (by rw[h.1];exact Nat.le_refl _),List.getElem_append_right (Nat.le_refl _)];simp [h.1]
  ·simp only[List.getElem_append_right (Nat.le_refl _),Nat.sub_self,List.getElem_cons_zero]
   exact⟨hc,hC⟩
theorem yg0.reads {w wq:World} {base:Nat} {v:Value} {vs:List Value} {es:List (List Int)} (h:yg0 w vs es) (hb:Below w.heap.size w wq) (h1:wq.ownsRow base 25 1 v es.length vs):∃ A c,v=.slice A es.length c∧es.length≤c∧Kd.C (Kd.slice 5 (Kd.int .u8)) wq A es.length es:=by
 obtain⟨A,c,rfl,hc,hcells⟩:=ygr h1
 have hn:es.length≤9223372036854775807:=by
  rcases h1.2 with ⟨_,h⟩|⟨g',cap',cur,he,_,_,h3,h5,_⟩
  ·omega
  ·simp only[maxLen] at h5
   omega
 refine⟨A,c,rfl,hc,rfl,hn,fun hp=>?_⟩
 obtain⟨g,_,_,rfl,hcl⟩:=hcells hp
 refine⟨_,rfl,fun j p hj=>?_⟩
 obtain⟨hjl,rfl⟩:=List.getElem?_eq_some_iff.1 hj
 obtain⟨A',c',hu,hc',hC'⟩:=h.2 j hjl
 refine⟨[.slice A' es[j].length c'],rfl,⟨A',c',rfl,hc',Kd.C_below hC' hb⟩,fun i x hx=>?_⟩
 cases i with
 | zero =>
  simp at hx
  subst hx
  have:=hcl j hjl
  rw[hu] at this
  rw[ydl]
  simpa [Kd.slice] using this
 | succ i=>simp at hx
theorem entS_step (l:List Int) (m p:Nat) (es:List (List Int)) (y:List Int) (hy:0<es.length→y=es.getD (es.length-1) []) (f:Bool) (hf:f=decide (es.length=0)) :
  entS l (m+1) p es=if (yc3 l p y f).2.2=0 then entS l m (yc3 l p y f).2.1 (es++[(yc3 l p y f).1]) else ([],0,(yc3 l p y f).2.2):=by
 rw[entS]
 by_cases h1:(ybw l p).2.2=0
 ·rw[if_pos h1]
  by_cases h2:0<es.length
  ·have hf0:f=false:=by rw[hf];exact decide_eq_false (by omega)
   subst hf0
   rw[← hy h2]
   by_cases h3:cmpL (ybw l p).1 y≤0
   ·have hE:yc3 l p y false=([],0,5):=by
     unfold yc3
     rw[if_pos h1,if_pos ⟨rfl,h3⟩]
    rw[hE,if_pos ⟨h2,h3⟩,if_neg (by simp)]
   ·have hE:yc3 l p y false=ybw l p:=by
     unfold yc3
     rw[if_pos h1,if_neg (fun h=>h3 h.2)]
    rw[hE,if_neg (fun h=>h3 h.2),if_pos h1]
  ·have hf0:f=true:=by rw[hf];exact decide_eq_true (by omega)
   subst hf0
   have hE:yc3 l p y true=ybw l p:=by
    unfold yc3
    rw[if_pos h1,if_neg (fun h=>by simp at h)]
   rw[hE,if_neg (fun h=>h2 h.1),if_pos h1]
 ·have hE:yc3 l p y f=([],0,(ybw l p).2.2):=by
   unfold yc3
   rw[if_neg h1]
  rw[if_neg h1,hE,if_neg h1]
theorem entryS_le {l:List Int} (hb:Bys l) {p:Nat} {y:List Int} {f:Bool} (h:(yc3 l p y f).2.2=0):(yc3 l p y f).2.1≤l.length∧(yc3 l p y f).1.length≤200∧Bys (yc3 l p y f).1:=by
 unfold yc3 at h ⊢
 by_cases h1:(ybw l p).2.2=0
 ·rw[if_pos h1] at h ⊢
  split at h
  ·simp at h
  ·rename_i h2
   rw[if_neg h2]
   have:=ylg hb h1
   exact⟨this.1,this.2.1,this.2.2.1⟩
 ·rw[if_neg h1] at h
  exact absurd h h1
theorem ypm (A:Option Addr) (c:Nat) (l:List Int) (w:World) (hC:Kd.C (Kd.int .u8) w A l.length l) (hc:l.length≤c) (hl:Bys l) (hlen:l.length≤140737488355328) :
  Calls Tryz.prog 70 #[.slice A l.length c] w fun e w'=>∃ v,e=.returned (.tuple #[v,.int .i64 (decS l).2])∧Below w.heap.size w w'∧EntB w' w.heap.size v (decS l).1:=by
 obtain⟨kg,hkg⟩:=(get_ev l 0 hl (by omega) (by omega)).ex
 obtain⟨n,hv⟩:∃ n,n=(vget l 0).1:=⟨_,rfl⟩
 obtain⟨q,hq⟩:∃ q,q=(vget l 0).2.1:=⟨_,rfl⟩
 obtain⟨e,he⟩:∃ e,e=(vget l 0).2.2:=⟨_,rfl⟩
 rw[← hv,← hq,← he] at hkg
 by_cases h1:e=0
 ·subst h1
  have hle:=(ycp hl he.symm).1
  rw[← hq] at hle
  by_cases h2:4096<n
  ·have ht:decS l=([],4):=by
    unfold decS
    rw[if_pos he.symm,if_pos (by omega)]
   rw[ht]
   clear ht hv hq he
   go_enter Tryz.func70,Tryz.ntmps70
   go_wp2_with (first
    | (go_at_call 39;refine(yaw.calls kg A c l 0 (n:Int) (q:Int) 0 w hC hc hkg).mono ?_;rintro e w1 ⟨rfl,hD⟩))
   go_ret2
   exact⟨_,rfl,hD.below,EntB.nil _ _⟩
  ·have ht:decS l=if (entS l n q []).2.2=0 then decT l (entS l n q []).1 (entS l n q []).2.1 else ([],(entS l n q []).2.2):=by
    unfold decS
    rw[if_pos he.symm,if_neg (by omega),← hv,← hq]
   generalize decS l=R at ht ⊢
   have HR0:=Lib.hid ht
   clear ht hv hq he
   go_enter Tryz.func70,Tryz.ntmps70
   go_wp2_with (first
    | (go_at_call 39;refine(yaw.calls kg A c l 0 (n:Int) (q:Int) 0 w hC hc hkg).mono ?_;rintro e w1 ⟨rfl,hD⟩))
   have hB1:=hD.below
   clear hkg hD
   go_loopw [5,6,7,8,26] (fun v5 v6 v7 v8 vi wq=>∃ (i p:Nat) (es:List (List Int)) (y:List Int) (B:Option Addr) (d:Nat) (vs:List Value),i≤n∧vi=.int .u64 i∧v5=.int .i64 p∧v6=.int .i64 0∧v8=.slice B y.length d∧Kd.C (Kd.int .u8) w B y.length y∧Bys y∧es.length=i∧p≤l.length ∧
     entS l n q []=entS l (n-i) p es∧(0<es.length→y=es.getD (es.length-1) [])∧(∀ s∈es,s.length≤200)∧wq.ownsRow w.heap.size 25 1 v7 es.length vs∧yg0 w vs es∧Below w.heap.size w wq) (fun _ _ _ _ vi _=>n-(intOf vi).toNat)
   case atStart=>exact⟨0,q,[],[],none,0,[],by omega,rfl,rfl,rfl,rfl,Kd.C_nil _ _,fun x h=>by simp at h,rfl,hle,rfl,fun h=>absurd h (by simp),fun s h=>by simp at h,yho _ _ _ _,yg0.nil w,hB1⟩
   case round =>
    obtain⟨i,p,es,y,B,d,vs,hi,rfl,rfl,rfl,rfl,hY,hy,hei,hp,hS,hlast,hes,hR,hSh,hbr⟩:=hrel
    by_cases hlt:i<n
    ·have hf:((i:Int) == 0)=decide (es.length=0):=by
      rw[hei]
      by_cases h:i=0
      ·subst h;rfl
      ·rw[decide_eq_false h]
       exact beq_eq_false_iff_ne.2 (by omega)
     have hstep:=entS_step l (n-i-1) p es y hlast ((i:Int) == 0) hf
     rw[show n-i=(n-i-1)+1 from by omega,hstep] at hS
     clear hf hstep
     obtain⟨A8,c8,rfl,hc8,_⟩:=ygr hR
     obtain⟨i0,hi0,hz0,hz1,hz2⟩:=info_parts ygm
     have hY1:=Kd.C_below hY hbr
     have hC1:=Kd.C_below hC hbr
     obtain⟨r,hr⟩:∃ r,r=yc3 l p y ((i:Int) == 0):=⟨_,rfl⟩
     have hcall:=yq9 A B c d l y p ((i:Int) == 0) wr hC1 hc hY1 hl hy hlen hp
     have hre:=entryS_le (l:=l) (p:=p) (y:=y) (f:=((i:Int) == 0)) hl
     rw[← hr] at hS hcall hre
     have HR:=Lib.hid hR;have HSh:=Lib.hid hSh;have HEI:=Lib.hid hei
     clear hr hR hSh hlast hY1 hC1 hY
     by_cases hr0:r.2.2=0
     ·rw[if_pos hr0] at hS
      obtain⟨k1,k2,k3⟩:=hre hr0
      rw[hr0] at hcall
      have HS:=Lib.hid hS
      have hei1:es.length≤4096:=by omega
      clear hS hei hre
      go_wp2_with (first
       | (go_at_call 109;refine hcall.mono ?_;rintro e w2 ⟨hD,A5,c5,rfl,hc5,hC5⟩;have hR2:=yhh HR.out hD.below;have hb2:=yae hbr hbr.size hD.below;have hsz2:=hb2.size)
       | (at_builtin;refine wpList_append_own _ rfl _ _ 46 rfl w.heap.size 25 i0 (.slice none 0 0) 1 24 Tryz.underlying46 hi0 hz0 hz1 hz2 rfl (by decide) _ _ _ rfl (yf8 hR2 _) ⟨w2.heap.size,0,none⟩ 1 1 [.slice A5 r.1.length c5] rfl (by simp) (cell_one_new _ _ _) (by simp [Value.oneCell']) (by unfold maxLen;omega) (by omega) (by simp;omega) ?_;intro v' w4 hown4 hgrow4 hnil4))
      have hei:=HEI.out
      refine⟨⟨i+1,r.2.1,es++[r.1],r.1,A5,c5,vs++[.slice A5 r.1.length c5],by omega,by go_num,rfl,rfl,rfl,hC5 w hC,k3,by simp [hei],k1,by rw[HS.out,show n-(i+1)=n-i-1 from by omega],fun _=>?_,fun s hs=>?_,by rw[List.length_append];exact hown4,yg0.snoc HSh.out hc5 (hC5 w hC),(hb2.alloc hb2.size _).grown hgrow4 (by simp;omega) (fun k hk=>ydp HR.out k hk)⟩,by simp [intOf];omega⟩
      ·simp
      ·rcases List.mem_append.1 hs with hs|hs
       ·exact hes s hs
       ·rw[List.mem_singleton.1 hs];exact k2
     ·rw[if_neg hr0] at hS
      have HS:=Lib.hid hS
      clear hS hei hre
      go_wp2_with (first
       | (go_at_call 109;refine hcall.mono ?_;rintro e w2 ⟨hD,A5,c5,rfl,hc5,hC5⟩;have hb2:=yae hbr hbr.size hD.below))
      go_ret2
      have hRv:R=([],r.2.2):=by rw[HR0.out,HS.out];exact if_neg hr0
      rw[hRv]
      exact⟨_,rfl,hb2,EntB.nil _ _⟩
    ·obtain rfl:i=n:=by omega
     rw[Nat.sub_self,entS] at hS
     obtain⟨A7,c7,rfl,hc7,hC7⟩:=hSh.reads hbr hR
     have hC1:=Kd.C_below hC hbr
     have hel:es.length≤4096:=by omega
     obtain⟨kg,hkg⟩:=(get_ev l p hl (by omega) hp).ex
     have hdt:R=decT l es p:=by
      rw[HR0.out,hS]
      rfl
     have HDT:=Lib.hid hdt
     clear hdt hS hY hy hlast hSh hR
     subst hei
     obtain⟨m,hv⟩:∃ m,m=(vget l p).1:=⟨_,rfl⟩
     obtain⟨q2,hq⟩:∃ q2,q2=(vget l p).2.1:=⟨_,rfl⟩
     obtain⟨e,he⟩:∃ e,e=(vget l p).2.2:=⟨_,rfl⟩
     rw[← hv,← hq,← he] at hkg
     by_cases h3:e=0
     ·subst h3
      have hle2:=(ycp hl he.symm).1
      rw[← hq] at hle2
      by_cases h4:4096<m
      ·have ht:decT l es p=([],4):=by
        unfold decT
        rw[if_pos he.symm,if_pos (by omega)]
       have HT:=Lib.hid ht
       clear ht hv hq he
       go_wp2_with (first
        | (go_at_call 39;refine(yaw.calls kg A c l (p:Int) (m:Int) (q2:Int) 0 wr hC1 hc hkg).mono ?_;rintro e w1 ⟨rfl,hD⟩))
       go_ret2
       rw[HDT.out,HT.out]
       exact⟨_,rfl,yae hbr hbr.size hD.below,EntB.nil _ _⟩
      ·have ht:decT l es p=if (ybq (l.drop q2) (wid es.length) m).2=0 then yes es (ybq (l.drop q2) (wid es.length) m).1 else ([],(ybq (l.drop q2) (wid es.length) m).2):=by
        unfold decT
        rw[if_pos he.symm,if_neg (by omega),← hq,← hv]
       have HT:=Lib.hid ht
       clear ht hv hq he
       go_upto_region 21 with (first
        | (go_at_call 39;refine(yaw.calls kg A c l (p:Int) (m:Int) (q2:Int) 0 wr hC1 hc hkg).mono ?_;rintro e w1 ⟨rfl,hD⟩))
       have hb1:=hD.below
       obtain⟨i5,hi5,hz0,hz1,hz2⟩:=info_parts ycj
       have hcut:=ylr (P:=Tryz.prog) 25 5 .i64 Tryz.underlying25 hi5 1 hz1 A l.length c (q2:Int) (by omega) (by omega)
       rw[Int.toNat_natCast] at hcut
       have hdr0:∀ w0,Kd.C (Kd.int .u8) w0 A l.length l→Kd.C (Kd.int .u8) w0 (if c=q2 then A else A.map (·.add (q2*1))) (l.drop q2).length (l.drop q2):=fun w0 h0=>Kd.C_drop h0 hle2 hc
       have hdl:(l.drop q2).length=l.length-q2:=List.length_drop
       generalize (if c=q2 then A else A.map (·.add (q2*1)))=A9 at *
       have hdr:=hdr0 wr (Kd.C_below hC hbr)
       obtain⟨b9,hb9⟩:∃ b9,b9=l.drop q2:=⟨_,rfl⟩
       have hby9:Bys b9:=by rw[hb9];exact hl.drop _
       rw[← hb9] at hdr hdl
       have HT1:=HT.out
       rw[← hb9] at HT1
       have HT2:=Lib.hid HT1
       rw[← hdl] at hcut
       have hle9:b9.length≤c-q2:=by omega
       have hw12:=yjc es.length hel
       obtain⟨kw,hkw⟩:=(yl2 es.length (by omega)).ex
       obtain⟨ku,hku⟩:=(ymm hby9 (by omega) (w:=wid es.length) (m:=m) (by omega) (by omega)).ex
       obtain⟨ru,hru⟩:∃ ru,ru=ybq b9 (wid es.length) m:=⟨_,rfl⟩
       rw[← hru] at hku HT1
       clear hdr0 hb9 hi5 hz0 hz1 hz2 hdl HT1 hkg
       have HRU:=Lib.hid hru
       have hwm:IntKind.i64.wrap (m:Int)=(m:Int):=ydm _ (by omega) (by omega)
       clear hru
       go_region_held3 (fun w'=>True) (trivial) (first
        | (go_at_call 110;refine(ygz.calls kw ((es.length:Nat):Int) ((wid es.length:Nat):Int) _ hkw).mono ?_;rintro e w3 ⟨rfl,hb3⟩;have hb3w:Below wr.heap.size wr w3:=yae (by first|exact hb1|exact yam hb1|exact yab hb1 _) (by first|exact hb1.size|exact(yam hb1).size|exact(yab hb1 _).size) hb3)
        | (go_at_call 63;refine(yav.calls ku A9 (c-q2) b9 ((wid es.length:Nat):Int) (m:Int) ru.1 ru.2 _ (by first|exact Kd.C_below hdr hb3w|exact Kd.C_drew (Kd.C_below hdr hb3w)|exact Kd.C_drewN (Kd.C_below hdr hb3w) _) hle9 hku).mono ?_;rintro e w4 ⟨v11,rfl,hR11,hb4⟩;have hb4w:Below wr.heap.size wr w4:=yae (by first|exact hb3w|exact yam hb3w|exact yab hb3w _) (by first|exact hb3w.size|exact(yam hb3w).size|exact(yab hb3w _).size) hb4))
       all_goals
        obtain⟨B4,c4,rfl,hc4,hC4⟩:=Kd.R_reads hR11
        have hCe:=Kd.C_below hC7 hb4w
        by_cases hr2:ru.2=0
        ·have hrt:R=yes es ru.1:=by
          rw[HDT.out,HT2.out,← HRU.out,if_pos hr2]
         have hun:∀ u∈ru.1,0≤u∧u<18446744073709551616:=fun u hu=>by
          have e:ru=(ru.1,0):=by rw[← hr2]
          have:=HRU.out
          rw[e] at this
          have h7:=(ygp hby9 this.symm).2.1 u hu
          have h8:(2:Int)^wid es.length≤2^12:=by
           have:2^wid es.length≤2^12:=Nat.pow_le_pow_right (n:=2) (by decide) hw12
           exact_mod_cast this
          omega
         have hul:ru.1.length≤4096:=by
          have:=yhv (b:=b9) (w:=wid es.length) (m:=m)
          rw[← HRU.out] at this
          omega
         have HRT:=Lib.hid hrt
         have hcall:=yrn A7 B4 c7 c4 es ru.1 w4 hCe hc7 hC4 hc4 hel hul hes hun
         clear hrt hun hCe hC7 hC4 hdr hC1 hR11
         go_wp2_with (first
          | (go_at_call 111;refine hcall.mono ?_;rintro e w5 ⟨v5,rfl,hb5,hE5⟩))
         go_ret2
         rw[HRT.out]
         have hb4z:=yae hbr hbr.size hb4w
         exact⟨_,rfl,yae hb4z hb4z.size hb5,hE5.lower hb4z.size⟩
        ·have hrt:R=([],ru.2):=by
          rw[HDT.out,HT2.out,← HRU.out,if_neg hr2]
         have HRT:=Lib.hid hrt
         clear hrt hCe hC7 hC4 hdr hC1 hR11
         go_wp2
         go_ret2
         rw[HRT.out]
         exact⟨_,rfl,yae hbr hbr.size hb4w,EntB.nil _ _⟩
     ·have ht:decT l es p=([],e):=by
       unfold decT
       rw[← he,if_neg h3]
      have HT:=Lib.hid ht
      clear ht hv hq he
      go_wp2_with (first
       | (go_at_call 39;refine(yaw.calls kg A c l (p:Int) (m:Int) (q2:Int) e wr hC1 hc hkg).mono ?_;rintro e w1 ⟨rfl,hD⟩))
      go_ret2
      rw[HDT.out,HT.out]
      exact⟨_,rfl,yae hbr hbr.size hD.below,EntB.nil _ _⟩
 ·have ht:decS l=([],e):=by
   unfold decS
   rw[← he,if_neg h1]
  rw[ht]
  clear ht hv hq he
  go_enter Tryz.func70,Tryz.ntmps70
  go_wp2_with (first
   | (go_at_call 39;refine(yaw.calls kg A c l 0 (n:Int) (q:Int) e w hC hc hkg).mono ?_;rintro e w1 ⟨rfl,hD⟩))
  go_ret2
  exact⟨_,rfl,hD.below,EntB.nil _ _⟩
end Go.Proofs.YteeikgjjgfdjgaaGreat.PK
end
section
namespace Go.Proofs.YteeikgjjgfdjgaaGreat.PK
open Go.RowKit YteeikgjjgfdjgaaGreatW.PrintWords YteeikgjjgfdjgaaGreatW.PrintLast YteeikgjjgfdjgaaGreatW.PrintMore
set_option linter.unusedVariables false
set_option linter.unusedSimpArgs false
theorem ynh (A:Option Addr) (n c:Nat):∀ u∈[Value.slice A n c],u.oneCell'=true:=by
 intro u hu
 obtain rfl:=List.mem_singleton.1 hu
 rfl
def RShows (w0:World) (v:Value) (W:World) (base:Nat) (es:List (List Int)):Prop:=∃ vs:List Value,yg0 w0 vs es∧Kd.R (Kd.raw 1) 25 W base (fun _=>True) v (vs.map fun u=>[u])
theorem RShows.reads {w0 W:World} {v:Value} {base:Nat} {es:List (List Int)} (h:RShows w0 v W base es) (hb:Below w0.heap.size w0 W):∃ A c,v=.slice A es.length c∧es.length≤c∧Kd.C (Kd.slice 5 (Kd.int .u8)) W A es.length es:=by
 obtain⟨vs,hs,hR⟩:=h
 obtain⟨hok,inner,ho,hr⟩:=hR
 have hin:inner=vs:=by
  apply List.ext_getElem (by have:=hr.1;rw[List.length_map,show(Kd.raw 1).sz=1 from rfl,Nat.mul_one] at this;exact this)
  intro j h1 h2
  have h3:=(hr.2 j [vs[j]] (by rw[List.getElem?_map,List.getElem?_eq_getElem h2];rfl)).1
  have h4:(inner.drop (j*1)).take 1=[inner[j]]:=by rw[Nat.mul_one,List.drop_eq_getElem_cons h1];rfl
  have h5:[inner[j]]=[vs[j]]:=by rw[← h4];exact h3
  injection h5
 rw[List.length_map,hs.1,hin] at ho
 exact hs.reads hb ho
theorem yje {α:Type} (d:Kd α) (W:World) (e base:Nat) (hb:base≤W.heap.size):Kd.R d e (W.alloc (.cells #[] e)) base (fun _=>True) (.slice (some ⟨W.heap.size,0,none⟩) 0 0) []:=
 ⟨fun _ _=>trivial,[],World.ownsRow_lit W #[] 0 hb (by decide) (by simp),Reps.none _ _⟩
theorem yo1 {kind:Int} {cs:List Cel} {i:Nat} (hi:i<cs.length) (h0:¬ cs[i].f0=true):ydc (cs.take (i+1))=ydc (cs.take i)++[cs[i].f1]∧yb2 (cs.take (i+1))=yb2 (cs.take i)++[cs[i].f2]∧ydv kind (cs.take (i+1))=ydv kind (cs.take i)++yei kind cs[i]:=by
 have hs:=yjr cs i hi
 unfold ydc yb2 ydv
 rw[hs,if_neg h0]
 simp
theorem yl6 {kind:Int} {cs:List Cel} {i:Nat} (hi:i<cs.length) (h0:cs[i].f0=true):ydc (cs.take (i+1))=ydc (cs.take i)∧yb2 (cs.take (i+1))=yb2 (cs.take i)∧ydv kind (cs.take (i+1))=ydv kind (cs.take i):=by
 have hs:=yjr cs i hi
 unfold ydc yb2 ydv
 rw[hs,if_pos h0]
 exact⟨rfl,rfl,rfl⟩
end Go.Proofs.YteeikgjjgfdjgaaGreat.PK
end
