/-
  Parts of the proof: AKh, AKj, Cv.
-/
import Derived.Test.YteeikgjjgfdjgaaGreatU23
set_option maxHeartbeats 2000000
set_option maxRecDepth 100000
section
namespace Go.Proofs.YteeikgjjgfdjgaaGreat.PK
open Go.RowKit Go.Maps YteeikgjjgfdjgaaGreatW.PrintWords YteeikgjjgfdjgaaGreatW.PrintLast YteeikgjjgfdjgaaGreatW.PrintMore
set_option linter.unusedVariables false
set_option linter.unusedSimpArgs false
def Byt (w:World) (base:Nat) (og:Option Nat) (v:Value) (xs:List Int):Prop:=
 (og=none∧v=.slice none 0 0∧xs=[]) ∨
 ∃ g cap cells m,og=some g∧v=.slice (some ⟨g,0,none⟩) xs.length cap∧base≤g∧xs.length≤cap∧w.heap[g]?=some (Obj.cells cells 5 m)∧cap≤cells.size∧(cap≤m.1∨m.2≤m.1)∧cap≤maxLen∧∀ i (h:i<xs.length),cells[i]?=some (.int .u8 xs[i])
theorem Byt.of_own {w:World} {base n:Nat} {v:Value} {xs:List Int} (h:w.ownsRow base 5 1 v n (nums .u8 xs)):Byt w base v.ownBlock v xs:=by
 have hl:xs.length=n:=by have:=h.1;rw[yli] at this;omega
 rcases h.2 with ⟨rfl,h2⟩|⟨g,cap,cur,rfl,hg,hcur,r1,r2,r3,r4⟩
 ·exact .inl ⟨rfl,rfl,List.eq_nil_of_length_eq_zero (by omega)⟩
 ·refine .inr ⟨g,cap,cur,(0,0),rfl,by rw[hl],hg,by omega,hcur,by omega,.inr (Nat.le_refl _),r2,fun i hi=>?_⟩
  have:=h.cellAt (g:=g) i (by omega)
  rw[nums,List.getElem?_map,List.getElem?_eq_getElem hi] at this
  simpa [World.cell?,hcur] using this
theorem Byt.keep {w w':World} {base og v xs} (h:Byt w base og v xs) (hb:∀ g,og=some g→w'.heap[g]?=w.heap[g]?):Byt w' base og v xs:=by
 rcases h with h|⟨g,cap,cells,m,h1,h2,h3,h4,h5,h6⟩
 ·exact .inl h
 ·exact .inr ⟨g,cap,cells,m,h1,h2,h3,h4,(hb g h1).trans h5,h6⟩
theorem Byt.lt {w:World} {base og v xs} (h:Byt w base og v xs):∀ g,og=some g→g<w.heap.size:=by
 rintro g rfl
 rcases h with h|⟨g',cap,cells,m,h1,h2,h3,h4,h5,h6⟩
 ·exact absurd h.1 (by simp)
 ·injection h1 with h1;subst h1;exact lt_of_block h5
theorem Byt.base_le {w:World} {base og v xs} (h:Byt w base og v xs):∀ g,og=some g→base≤g:=by
 rintro g rfl
 rcases h with h|⟨g',cap,cells,m,h1,h2,h3,h4,h5,h6⟩
 ·exact absurd h.1 (by simp)
 ·injection h1 with h1;subst h1;exact h3
theorem Byt.typed {w:World} {base og v xs} (h:Byt w base og v xs):∀ g,og=some g→∃ cells m,w.heap[g]?=some (Obj.cells cells 5 m):=by
 rintro g rfl
 rcases h with h|⟨g',cap,cells,m,h1,h2,h3,h4,h5,h6⟩
 ·exact absurd h.1 (by simp)
 ·injection h1 with h1;subst h1;exact⟨_,_,h5⟩
theorem Byt.lower {w:World} {base base' og v xs} (h:Byt w base og v xs) (hb:base'≤base):Byt w base' og v xs:=by
 rcases h with h|⟨g,cap,cells,m,h1,h2,h3,h4⟩
 ·exact .inl h
 ·exact .inr ⟨g,cap,cells,m,h1,h2,by omega,h4⟩
theorem Byt.reads {w:World} {base og v xs} (h:Byt w base og v xs):∃ A c,v=.slice A xs.length c∧xs.length≤c∧Kd.C (Kd.int .u8) w A xs.length xs:=by
 rcases h with ⟨_,rfl,rfl⟩|⟨g,cap,cells,m,h1,rfl,h3,h4,hh,h6,h7,hx,hcell⟩
 ·exact⟨none,0,rfl,Nat.le_refl _,Kd.C_nil _ _⟩
 ·refine⟨_,cap,rfl,h4,Kd.C_of_reads (d:=0) ⟨rfl,by unfold maxLen at hx;omega,fun _=>⟨_,rfl,fun j hj=>?_⟩⟩⟩
  rw[yc7]
  simp only[World.cell?,hh]
  rw[hcell j hj,List.getD_eq_getElem?_getD,List.getElem?_eq_getElem hj]
  simp
def EntB (w:World) (base:Nat) (v:Value) (es:List (List Int)):Prop:=
 ∃ (vs:List Value) (ogs:List (Option Nat)),w.ownsRow base 25 1 v es.length vs∧ogs.length=es.length∧(∀ (i j:Nat) (g:Nat),i<j→ogs[i]?=some (some g)→ogs[j]?≠some (some g)) ∧
  ∀ i (h:i<es.length),∃ u og,vs[i]?=some u∧ogs[i]?=some og∧Byt w base og u es[i]
theorem EntB.keep {w w':World} {base:Nat} {v:Value} {es:List (List Int)} (h:EntB w base v es) (hb:∀ k,base≤k→k<w.heap.size→w'.heap[k]?=w.heap[k]?):EntB w' base v es:=by
 obtain⟨vs,ogs,h1,h2,h4,h5⟩:=h
 refine⟨vs,ogs,yfc h1 (fun k hk=>hb k (yd1 h1 k hk) (ygc h1 k hk)),h2,h4,fun i h=>?_⟩
 obtain⟨u,og,hu,hog,hB⟩:=h5 i h
 exact⟨u,og,hu,hog,hB.keep (fun g hg=>hb g (hB.base_le g hg) (hB.lt g hg))⟩
theorem EntB.below {w w':World} {base:Nat} {v:Value} {es:List (List Int)} (h:EntB w base v es) (hb:Below w.heap.size w w'):EntB w' base v es:=h.keep (fun k _ hk=>hb.block k hk)
theorem EntB.lower {w:World} {base base':Nat} {v:Value} {es:List (List Int)} (h:EntB w base v es) (hb:base'≤base):EntB w base' v es:=by
 obtain⟨vs,ogs,h1,h2,h4,h5⟩:=h
 refine⟨vs,ogs,ygr h1 hb,h2,h4,fun i h=>?_⟩
 obtain⟨u,og,hu,hog,hB⟩:=h5 i h
 exact⟨u,og,hu,hog,hB.lower hb⟩
theorem EntB.nil (w:World) (base:Nat):EntB w base (.slice none 0 0) []:=⟨[],[],yhj _ _ _ _,rfl,fun i j g _ h=>by simp at h,fun i h=>absurd h (by simp)⟩
theorem EntB.reads {w:World} {base:Nat} {v:Value} {es:List (List Int)} (hE:EntB w base v es):∃ A c,v=.slice A es.length c∧es.length≤c∧Kd.C (Kd.slice 5 (Kd.int .u8)) w A es.length es:=by
 obtain⟨vs,gs,h1,h2,h4,h6⟩:=hE
 obtain⟨A,c,rfl,hc,hcells⟩:=yge h1
 have hn:es.length≤9223372036854775807:=by
  rcases h1.2 with ⟨_,h⟩|⟨g',cap',cur,he,_,_,h3,h5,_⟩
  ·omega
  ·simp only[maxLen] at h5
   omega
 refine⟨A,c,rfl,hc,rfl,hn,fun hp=>?_⟩
 obtain⟨g,_,_,rfl,hcl⟩:=hcells hp
 refine⟨_,rfl,fun j p hj=>?_⟩
 obtain⟨hjl,rfl⟩:=List.getElem?_eq_some_iff.1 hj
 obtain⟨u,og,hu,_,hM⟩:=h6 j hjl
 obtain⟨A',c',rfl,hc',hC'⟩:=hM.reads
 refine⟨[.slice A' es[j].length c'],rfl,⟨A',c',rfl,hc',hC'⟩,fun i x hx=>?_⟩
 cases i with
 | zero =>
  simp at hx
  subst hx
  have:=hcl j hjl
  rw[hu] at this
  rw[yc7]
  simpa [Kd.slice] using this
 | succ i=>simp at hx
theorem EntB.put {w0 w:World} {base g n c i:Nat} {u:Value} {og:Option Nat} {x:List Int} {es:List (List Int)} (hE:EntB w0 base (.slice (some ⟨g,0,none⟩) n c) es) (hb:Below w0.heap.size w0 w) (hu:Byt w w0.heap.size og u x) (hi:i<es.length) (hbase:base≤w0.heap.size) :
  EntB (w.setCell ⟨g,i,none⟩ u) base (.slice (some ⟨g,0,none⟩) n c) (es.set i x)∧w.grownBy (w.setCell ⟨g,i,none⟩ u) (some g):=by
 have hE1:=hE.below hb
 obtain⟨vs,ogs,h1,h2,h4,h6⟩:=hE
 have h1w:=yfc h1 (fun k hk=>hb.block k (ygc h1 k hk))
 have hn:n=es.length:=by
  rcases h1.2 with ⟨h,_⟩|⟨g',cap',cur,h,_⟩
  ·cases h
  ·injection h
 obtain⟨cells,hcells⟩:=ydt h1w g rfl
 obtain⟨hst,hgr⟩:=(hn▸h1w).stored i u
 refine⟨⟨vs.set i u,ogs.set i og,?_,by simpa using h2,fun a b g' hab ha hb'=>?_,fun j h=>?_⟩,hgr⟩
 ·rw[List.length_set,hn];exact hst
 ·rw[List.getElem?_set] at ha hb'
  have hold:∀ (j g:Nat),ogs[j]?=some (some g)→g<w0.heap.size:=by
   intro j g hj
   obtain⟨hjl,_⟩:=List.getElem?_eq_some_iff.1 hj
   obtain⟨u',og',_,hog',hB⟩:=h6 j (by omega)
   rw[hj] at hog'
   injection hog' with hog'
   exact hB.lt g hog'.symm
  have hnew:∀ g:Nat,og=some g→w0.heap.size≤g:=fun g hg=>hu.base_le g hg
  split at ha
  ·rename_i e1
   split at hb'
   ·omega
   ·split at ha
    ·injection ha with ha
     have:=hnew g' ha
     have:=hold b g' hb'
     omega
    ·cases ha
  ·split at hb'
   ·split at hb'
    ·injection hb' with hb'
     have:=hnew g' hb'
     have:=hold a g' ha
     omega
    ·cases hb'
   ·exact h4 a b g' hab ha hb'
 ·rw[List.length_set] at h
  have hkeep:∀ og' u' x' b',Byt w b' og' u' x'→Byt (w.setCell ⟨g,i,none⟩ u) b' og' u' x':=fun og' u' x' b' hM=>hM.keep (fun g' hg'=>hgr.block g' (hM.lt g' hg') (fun e=>by
   have e:g'=g:=by injection e
   subst e
   obtain⟨c',m',hc'⟩:=hM.typed g' hg'
   rw[hcells] at hc'
   injection hc' with hc'
   injection hc' with _ hc' _
   exact absurd hc' (by decide)))
  by_cases hij:i=j
  ·subst hij
   have hvl:i<vs.length:=by have:=h1.1;omega
   refine⟨u,og,?_,?_,?_⟩
   ·rw[List.getElem?_set_self hvl]
   ·rw[List.getElem?_set_self (by omega)]
   ·rw[List.getElem_set_self]
    exact(hkeep _ _ _ _ hu).lower hbase
  ·obtain⟨u',og',hu',hog',hB⟩:=h6 j h
   refine⟨u',og',by rw[List.getElem?_set_ne hij];exact hu',by rw[List.getElem?_set_ne hij];exact hog',?_⟩
   rw[List.getElem_set_ne hij]
   exact hkeep _ _ _ _ (hB.keep (fun g' hg'=>hb.block g' (hB.lt g' hg')))
theorem yoq (l:List Bool) (hl:l.length≤1000000):Ev (fun k=>ydw.f k l false) (decide (false∈l)):=by
 have h0:∀ n i:Nat,i+n=l.length→∃ r:Int,Ev (fun k=>ybi.l0 k l false (l.length:Int) (i:Int)) r∧(0≤r↔false∈l.drop i):=by
  intro n
  induction n with
  | zero =>
   intro i h
   refine⟨-1,Ev.step (fun k=>?_) (Ev.now _),?_⟩
   ·rw[ybi.l0,if_neg (by omega)]
   ·rw[List.drop_of_length_le (by omega)];simp
  | succ n ih =>
   intro i h
   have hi:i<l.length:=by omega
   have hrd:rdOf false l (i:Int)=l[i]:=by unfold rdOf;rw[Int.toNat_natCast,List.getD_eq_getElem?_getD,List.getElem?_eq_getElem hi];rfl
   have hd:l.drop i=l[i]::l.drop (i+1):=List.drop_eq_getElem_cons hi
   by_cases h1:l[i]=false
   ·refine⟨(i:Int),Ev.step (fun k=>?_) (Ev.now _),?_⟩
    ·rw[ybi.l0,if_pos (by omega),if_pos (by omega),if_pos (by omega),hrd,h1,if_pos (by rfl)]
    ·rw[hd,h1];simp
   ·obtain⟨r,hr,hiff⟩:=ih (i+1) (by omega)
    refine⟨r,Ev.step (fun k=>?_) hr,?_⟩
    ·rw[ybi.l0,if_pos (by omega),if_pos (by omega),if_pos (by omega),hrd,if_neg (by simpa using h1),w64s i (by omega)]
    ·rw[hiff,hd,List.mem_cons]
     simp [h1]
 obtain⟨r,hr,hiff⟩:=h0 l.length 0 (by omega)
 have e:decide (false∈l)=decide (r≥0):=decide_eq_decide.2 (by rw[← List.drop_zero (l:=l),← hiff])
 rw[e]
 exact Ev.bind hr (Ev.now _)
theorem EntB.grown {w w1:World} {base g:Nat} {v:Value} {es:List (List Int)} (hE:EntB w base v es) (hg:w.grownBy w1 (some g)) {cells:Array Value} {t:Nat} {m:Nat×Nat} (hc:w.heap[g]?=some (Obj.cells cells t m)) (h55:t≠25) (h5:t≠5):EntB w1 base v es:=by
 obtain⟨vs,gs,h1,h2,h4,h6⟩:=hE
 refine⟨vs,gs,yfc h1 (fun k hk=>?_),h2,h4,fun i h=>?_⟩
 ·refine hg.block k (ygc h1 k hk) (fun e=>?_)
  have e:k=g:=by injection e
  subst e
  obtain⟨cells',hc'⟩:=ydt h1 k hk
  rw[hc] at hc'
  injection hc' with hc'
  injection hc' with _ hc' _
  exact h55 hc'
 ·obtain⟨u',og',hu',hog',hM'⟩:=h6 i h
  refine⟨u',og',hu',hog',hM'.keep (fun g' hg'=>hg.block _ (hM'.lt g' hg') (fun e=>?_))⟩
  have e:g'=g:=by injection e
  subst e
  obtain⟨cells',m',h7⟩:=hM'.typed g' hg'
  rw[hc] at h7
  injection h7 with h7
  injection h7 with _ h7 _
  exact h5 h7
theorem EntB.slot {w:World} {base g n c i:Nat} {es:List (List Int)} (hE:EntB w base (.slice (some ⟨g,0,none⟩) n c) es) (hi:i<es.length):(∃ u,w.cell? ⟨g,i,none⟩=some u)∧w.frozen? ⟨g,i,none⟩=false:=by
 obtain⟨vs,ogs,h1,h2,h4,h6⟩:=hE
 obtain⟨u,og,hu,_⟩:=h6 i hi
 have hn:n=es.length:=by
  rcases h1.2 with ⟨h,_⟩|⟨g',cap',cur,h,_⟩
  ·cases h
  ·injection h
 subst hn
 refine⟨⟨u,?_⟩,?_⟩
 ·have:=h1.cellAt (g:=g) i (by omega)
  exact this.trans hu
 ·rcases h1.2 with ⟨h',_⟩|⟨g',cap',cur,h',_,hh,_⟩
  ·cases h'
  ·have:g=g':=by injection h' with h';injection h' with h';injection h' with h'
   subst this
   simp [World.frozen?,hh]
theorem EntB.made (W:World) (base m:Nat) (hb:base≤W.heap.size) (hm:m≤1000000):EntB (W.alloc (.cells (madeCells #[.slice none 0 0] m) 25)) base (.slice (some ⟨W.heap.size,0,none⟩) m m) (List.replicate m []):=by
 have h:=ylp (enc:=id) (d:=Value.slice none 0 0) W base 25 m hb (by omega)
 refine⟨encs id (List.replicate m (Value.slice none 0 0)),List.replicate m none,by rw[List.length_replicate];exact h,by simp,fun i j g _ hi=>?_,fun i hi=>⟨.slice none 0 0,none,?_,?_,.inl ⟨rfl,rfl,by simp⟩⟩⟩
 ·obtain⟨_,hi⟩:=List.getElem?_eq_some_iff.1 hi
  simp at hi
 ·rw[List.length_replicate] at hi
  rw[List.getElem?_eq_getElem (by simp [encs];exact hi)]
  simp [encs]
 ·rw[List.length_replicate] at hi
  rw[List.getElem?_eq_getElem (by simp;exact hi)]
  simp
theorem yix (A:Option Addr) (c:Nat) (xs:List Int) (w:World) (h:Kd.C (Kd.int .u8) w A xs.length xs) (hl:xs.length≤140737488355328) :
  Calls Tryz.prog 106 #[.slice A xs.length c] w fun e w'=>∃ A' c',e=.returned (.slice A' xs.length c')∧w'.ownsRow w.heap.size 5 1 (.slice A' xs.length c') xs.length (nums .u8 xs)∧Below w.heap.size w w':=by
 rcases A with _|ad
 ·have h0:xs=[]:=by
   rcases Nat.eq_zero_or_pos xs.length with h0|h0
   ·exact List.eq_nil_of_length_eq_zero h0
   ·obtain⟨ad,h,_⟩:=h.2.2 h0;cases h
  subst h0
  refine(Tryz.bytes_Clone_nil 0 c w).mono ?_
  rintro e w' ⟨rfl,rfl⟩
  exact⟨none,0,rfl,yhj _ _ _ _,Below.refl _ _⟩
 ·refine(Tryz.bytes_Clone_at ad xs.length c xs w rfl hl (fun i hi=>?_)).mono ?_
  ·obtain⟨ad',e,hc⟩:=Kd.at_int h (i:Int) (by omega) (by omega)
   injection e with e
   subst e
   rw[yb3 hi,Int.toNat_natCast] at hc
   rw[hc,List.getD_eq_getElem?_getD,List.getElem?_eq_getElem hi]
   rfl
  ·rintro e w' ⟨v',rfl,ho,_,hb⟩
   obtain⟨A',c',rfl⟩:=yku ho
   exact⟨A',c',rfl,ho,hb⟩
def txs (es:List (List Int)) (us:List Int) (i:Nat):List (List Int):=(List.range us.length).map fun j=>if j<i then es.getD (us.getD j 0).toNat [] else []
theorem txs_zero (es us):txs es us 0=List.replicate us.length []:=by
 apply List.ext_getElem
 ·simp [txs]
 ·intro j h1 h2
  simp [txs]
theorem yjz (es us i):(txs es us i).length=us.length:=by simp [txs]
theorem txs_all (es:List (List Int)) (us:List Int):txs es us us.length=us.map fun u=>es.getD u.toNat []:=by
 apply List.ext_getElem
 ·simp [txs]
 ·intro j h1 h2
  have h3:j<us.length:=by simpa [txs] using h1
  simp only[txs,List.getElem_map,List.getElem_range,if_pos h3]
  rw[show us.getD j 0=us[j] from by rw[List.getD_eq_getElem?_getD,List.getElem?_eq_getElem h3];rfl]
theorem txs_set (es:List (List Int)) (us:List Int) (i:Nat) (h:i<us.length):(txs es us i).set i (es.getD us[i].toNat [])=txs es us (i+1):=by
 apply List.ext_getElem
 ·simp [txs]
 ·intro j h1 h2
  rw[List.getElem_set]
  simp only[txs,List.getElem_map,List.getElem_range]
  by_cases h3:i=j
  ·subst h3
   rw[if_pos rfl,if_pos (by omega),show us.getD i 0=us[i] from by rw[List.getD_eq_getElem?_getD,List.getElem?_eq_getElem h];rfl]
  ·rw[if_neg h3]
   by_cases h4:j<i
   ·rw[if_pos h4,if_pos (by omega)]
   ·rw[if_neg h4,if_neg (by omega)]
def yfx (n:Nat) (us:List Int):List Bool:=(List.range n).map fun j:Nat=>decide ((j:Int)∈us)
theorem yo9 (n:Nat) (us:List Int):false∈yfx n us↔¬ ∀ i<n,(i:Int)∈us:=by
 unfold yfx
 rw[List.mem_map]
 constructor
 ·rintro⟨j,hj,h⟩ hall
  rw[List.mem_range] at hj
  have:=hall j hj
  simp [this] at h
 ·intro h
  refine Classical.byContradiction fun hn=>h fun i hi=>Classical.byContradiction fun hni=>hn ⟨i,List.mem_range.2 hi,by simp [hni]⟩
theorem used_zero (n:Nat) (us:List Int):yfx n (us.take 0)=List.replicate n false:=by
 apply List.ext_getElem
 ·simp [yfx]
 ·intro j h1 h2
  simp [yfx]
theorem yrd (A B:Option Addr) (c d:Nat) (es:List (List Int)) (us:List Int) (w:World) (hr:Kd.C (Kd.slice 5 (Kd.int .u8)) w A es.length es) (hc:es.length≤c) (hU:Kd.C (Kd.int .u64) w B us.length us) (hd:us.length≤d)
  (hn:es.length≤4096) (hl:us.length≤4096) (hes:∀ s∈es,s.length≤200) (hu:∀ u∈us,0≤u∧u<18446744073709551616) :
  Calls Tryz.prog 111 #[.slice A es.length c,.slice B us.length d] w fun e w'=>∃ v,e=.returned (.tuple #[v,.int .i64 (yfm es us).2])∧Below w.heap.size w w'∧EntB w' w.heap.size v (yfm es us).1:=by
 have hm1:=yj8 (P:=Tryz.prog) 163 4 (.bool false) 1 Tryz.underlying163 info4 rfl (by decide) es.length (by omega)
 have hm2:=yj8 (P:=Tryz.prog) 46 25 (.slice none 0 0) 24 Tryz.underlying46 ygm rfl (by decide) us.length (by omega)
 have hR1:=ylp (enc:=Value.bool) (d:=false) w w.heap.size 4 es.length (Nat.le_refl _) (by omega)
 rw[← used_zero es.length us] at hR1
 have hB1:Below w.heap.size w (w.alloc (.cells (madeCells #[.bool false] es.length) 4)):=(Below.refl _ w).alloc (Nat.le_refl _) _
 go_enter Tryz.func111,Tryz.ntmps111
 go_upto_region 2 with (fail)
 generalize (w.alloc (.cells (madeCells #[.bool false] es.length) 4))=wa at *
 have hE2:=EntB.made wa w.heap.size us.length hB1.size (by omega)
 have hb2:Below wa.heap.size wa (wa.alloc (.cells (madeCells #[.slice none 0 0] us.length) 25)):=(Below.refl _ wa).alloc (Nat.le_refl _) _
 have hB2:=yad hB1 hB1.size hb2
 have hR2:=yhc hR1 hb2
 rw[← txs_zero es us] at hE2
 clear hR1
 go_upto_region 3 with (fail)
 generalize (wa.alloc (.cells (madeCells #[.slice none 0 0] us.length) 25))=wb at *
 generalize wa.heap.size=gt at *
 clear hm1 hm2 hB1 hb2
 go_wp2
 go_loopw [18] (fun vi wq=>∃ i:Nat,i≤us.length∧vi=.int .i64 i∧(∀ u∈us.take i,u<es.length)∧wq.ownsRow w.heap.size 4 1 (.slice (some ⟨w.heap.size,0,none⟩) es.length es.length) es.length (encs Value.bool (yfx es.length (us.take i)))∧EntB wq w.heap.size (.slice (some ⟨gt,0,none⟩) us.length us.length) (txs es us i)∧Below w.heap.size w wq) (fun vi _=>us.length-(intOf vi).toNat)
 case atStart=>exact⟨0,by omega,rfl,by simp,hR2,hE2,hB2⟩
 case round =>
  obtain⟨i,hi,rfl,hall,hR,hE,hbr⟩:=hrel
  by_cases hlt:i<us.length
  ·obtain⟨ad,rfl,hx0⟩:=Kd.at_int hU (i:Int) (by omega) (by omega)
   rw[yb3 hlt,Int.toNat_natCast] at hx0
   have hx:=(hbr.cell (World.block_lt_of_cell? w _ hx0)).trans hx0
   obtain⟨u,hui⟩:∃ u,u=us[i]:=⟨_,rfl⟩
   rw[← hui] at hx
   obtain⟨hu0,hu1⟩:=hu u (by rw[hui];exact List.getElem_mem hlt)
   have HU:=Lib.hid hui;have HA:=Lib.hid hall;have HR:=Lib.hid hR;have HE:=Lib.hid hE
   by_cases h1:u<es.length
   ·have HU0:=Lib.hid hu;have HES:=Lib.hid hes
    clear hui hall hR hE hx0 hU hu hes
    go_upto_region 8 with (fail)
    have hu:=HU0.out;have hes:=HES.out;have hui:=HU.out;have hR:=HR.out
    obtain⟨k,rfl⟩:=Int.eq_ofNat_of_zero_le hu0
    have hk:k<es.length:=by omega
    obtain⟨hcu,hfu⟩:=ynn (d:=false) hR (k:Int) (by omega) (by omega)
    rw[Int.toNat_natCast] at hcu hfu
    have HLT:=Lib.hid hlt
    clear hR
    obtain⟨ad2,A3,c3,rfl,hy0,hc3,hC0⟩:=yd8 hr (k:Int) (by omega) (by omega)
    rw[ye3 hk,Int.toNat_natCast] at hy0
    rw[ye3 hk] at hc3 hC0
    obtain⟨s,hs⟩:∃ s,s=es[k]:=⟨_,rfl⟩
    rw[← hs] at hy0 hc3 hC0
    have hsl:=hes s (by rw[hs];exact List.getElem_mem hk)
    have HS:=Lib.hid hs
    generalize rdOf false (yfx es.length (us.take i)) (k:Int)=b0 at hcu
    clear hs hui hu hes
    go_upto_region 9 with (fail)
    obtain⟨hst,hgr⟩:=ykr (enc:=Value.bool) HR.out (k:Int) true
    rw[Int.toNat_natCast] at hst hgr
    have hset:=used_set es.length i us HLT.out (by rw[← HU.out];omega)
    rw[← HU.out,Int.toNat_natCast] at hset
    rw[show(yfx es.length (us.take i)).set k true=yfx es.length (us.take (i+1)) from hset] at hst
    obtain⟨cells,hcells⟩:=ydt HR.out w.heap.size rfl
    have hE3:=HE.out.grown hgr hcells (by decide) (by decide)
    have hb3:Below w.heap.size w (wr.setCell ⟨w.heap.size,k,none⟩ (.bool true)):=hbr.grown hgr hbr.size (fun k' hk'=>by injection hk' with hk';omega)
    clear hcells HR HE hset
    generalize wr.setCell ⟨w.heap.size,k,none⟩ (.bool true)=wc at *
    have hy:=(hb3.cell (World.block_lt_of_cell? w _ hy0)).trans hy0
    have hC3:=Kd.C_below hC0 hb3
    have hR3:=Lib.hid hst
    have hE3H:=Lib.hid hE3
    clear hy0 hC0 hst hr hgr hx hcu hfu hbr
    have hslot:=hE3.slot (i:=i) (by rw[yjz];exact HLT.out)
    clear hE3
    go_wp2_with (first
     | (go_at_call 106;refine(yix A3 c3 s _ hC3 (by omega)).mono ?_;rintro e wd ⟨A5,c5,rfl,ho,hb4⟩;have hE4:=hE3H.out.below hb4;obtain⟨⟨u5,hcell5⟩,hfr5⟩:=hE4.slot (i:=i) (by rw[yjz];exact HLT.out);have hE4H:=Lib.hid hE4;clear hE4))
    have hlt:=HLT.out
    have hui:=HU.out
    have hs:=HS.out
    obtain⟨hp,hgr⟩:=EntB.put hE3H.out hb4 (Byt.of_own ho) (by rw[yjz];exact hlt) hb3.size
    have hsx:s=es.getD us[i].toNat []:=by
     rw[← hui,Int.toNat_natCast,List.getD_eq_getElem?_getD,List.getElem?_eq_getElem hk,hs]
     rfl
    have hset:(txs es us i).set i s=txs es us (i+1):=by rw[hsx];exact txs_set es us i hlt
    rw[hset] at hp
    refine⟨⟨i+1,by omega,by go_num,fun u' hu'=>?_,?_,hp,?_⟩,by simp [intOf];omega⟩
    ·rw[← ybc us i hlt] at hu'
     rcases List.mem_append.1 hu' with hu'|hu'
     ·exact HA.out u' hu'
     ·rw[List.mem_singleton.1 hu',← hui];exact h1
    ·obtain⟨vs,ogs,h7,_⟩:=hE4H.out
     have h8:=yhc hR3.out hb4
     exact yil h8 hgr (yhm h8 h7 (by decide))
    ·obtain⟨vs,ogs,h7,_⟩:=hE4H.out
     have h9:=yad hb3 hb3.size hb4
     exact h9.grown hgr h9.size (fun k' hk'=>yd1 h7 k' hk')
   ·have ht:yfm es us=([],5):=by
     unfold yfm
     rw[if_neg (fun hc=>h1 (by rw[hui];exact hc.1 us[i] (List.getElem_mem hlt)))]
    have HT:=Lib.hid ht
    clear hx0 hU hr hui hall hR hE ht
    go_wp2
    go_ret2
    rw[HT.out]
    exact⟨_,rfl,hbr,EntB.nil _ _⟩
  ·obtain rfl:i=us.length:=by omega
   rw[List.take_length] at hall hR
   rw[txs_all] at hE
   have hul:(yfx es.length us).length=es.length:=by simp [yfx]
   obtain⟨kc,hkc⟩:=(yoq (yfx es.length us) (by omega)).ex
   have hRB:Kd.R Kd.bool 4 wr w.heap.size (fun _=>True) (.slice (some ⟨w.heap.size,0,none⟩) es.length es.length) (yfx es.length us):=Kd.R_of_own (by rw[hul];exact hR) (fun _ _=>trivial)
   have hCB:=(Kd.R_reads' hRB).2.2
   by_cases hP:∀ i<es.length,(i:Int)∈us
   ·have hr0:decide (false∈yfx es.length us)=false:=decide_eq_false (fun hc=>(yo9 es.length us).1 hc hP)
    have ht:yfm es us=(us.map fun u=>es.getD u.toNat [],0):=by
     unfold yfm
     rw[if_pos ⟨hall,hP⟩]
    rw[hr0] at hkc
    have hcon:=ydw.calls kc (some ⟨w.heap.size,0,none⟩) es.length (yfx es.length us) false false wr hCB (by omega) hkc
    rw[hul] at hcon
    have HT:=Lib.hid ht;have HE:=Lib.hid hE
    clear ht hE hP hall hRB hCB hR hr hU hu hes hul hr0 hkc
    go_wp2_with (first
     | (go_at_call 138;refine hcon.mono ?_;rintro e wd ⟨rfl,hD⟩))
    go_ret2
    rw[HT.out]
    exact⟨_,rfl,yad hbr hbr.size hD.below,HE.out.below hD.below⟩
   ·have hr0:decide (false∈yfx es.length us)=true:=decide_eq_true ((yo9 es.length us).2 hP)
    have ht:yfm es us=([],5):=by
     unfold yfm
     rw[if_neg (fun hc=>hP hc.2)]
    rw[hr0] at hkc
    have hcon:=ydw.calls kc (some ⟨w.heap.size,0,none⟩) es.length (yfx es.length us) false true wr hCB (by omega) hkc
    rw[hul] at hcon
    have HT:=Lib.hid ht
    clear ht hE hP hall hRB hCB hR hr hU hu hes hul hr0 hkc
    go_wp2_with (first
     | (go_at_call 138;refine hcon.mono ?_;rintro e wd ⟨rfl,hD⟩))
    go_ret2
    rw[HT.out]
    exact⟨_,rfl,yad hbr hbr.size hD.below,EntB.nil _ _⟩
def yf9 (w:World) (vs:List Value) (es:List (List Int)):Prop:=
 vs.length=es.length∧∀ j (h:j<es.length),∃ A c,vs[j]?=some (.slice A es[j].length c)∧es[j].length≤c∧Kd.C (Kd.int .u8) w A es[j].length es[j]
theorem yf9.nil (w:World):yf9 w [] []:=⟨rfl,fun j h=>absurd h (by simp)⟩
theorem yf9.snoc {w:World} {vs:List Value} {es:List (List Int)} {A:Option Addr} {c:Nat} {x:List Int} (h:yf9 w vs es) (hc:x.length≤c) (hC:Kd.C (Kd.int .u8) w A x.length x):yf9 w (vs++[.slice A x.length c]) (es++[x]):=by
 refine⟨by simp [h.1],fun j hj=>?_⟩
 rcases Nat.lt_or_ge j es.length with h1|h1
 ·obtain⟨A',c',h2,h3⟩:=h.2 j h1
  refine⟨A',c',?_,?_⟩
  ·rw[List.getElem?_append_left (by have:=h.1;omega),List.getElem_append_left h1];exact h2
  ·rw[List.getElem_append_left h1];exact h3
 ·have:j=es.length:=by simp at hj;omega
  subst this
  refine⟨A,c,?_,?_⟩
  ·rw[List.getElem?_append_right (by rw[h.1];exact Nat.le_refl _),List.getElem_append_right (Nat.le_refl _)];simp [h.1]
  ·simp only[List.getElem_append_right (Nat.le_refl _),Nat.sub_self,List.getElem_cons_zero]
   exact⟨hc,hC⟩
theorem yf9.reads {w wq:World} {base:Nat} {v:Value} {vs:List Value} {es:List (List Int)} (h:yf9 w vs es) (hb:Below w.heap.size w wq) (h1:wq.ownsRow base 25 1 v es.length vs):∃ A c,v=.slice A es.length c∧es.length≤c∧Kd.C (Kd.slice 5 (Kd.int .u8)) wq A es.length es:=by
 obtain⟨A,c,rfl,hc,hcells⟩:=yge h1
 have hn:es.length≤9223372036854775807:=by
  rcases h1.2 with ⟨_,h⟩|⟨g',cap',cur,he,_,_,h3,h5,_⟩
  ·omega
  ·simp only[maxLen] at h5
   omega
 refine⟨A,c,rfl,hc,rfl,hn,fun hp=>?_⟩
 obtain⟨g,_,_,rfl,hcl⟩:=hcells hp
 refine⟨_,rfl,fun j p hj=>?_⟩
 obtain⟨hjl,rfl⟩:=List.getElem?_eq_some_iff.1 hj
 obtain⟨A',c',hu,hc',hC'⟩:=h.2 j hjl
 refine⟨[.slice A' es[j].length c'],rfl,⟨A',c',rfl,hc',Kd.C_below hC' hb⟩,fun i x hx=>?_⟩
 cases i with
 | zero =>
  simp at hx
  subst hx
  have:=hcl j hjl
  rw[hu] at this
  rw[yc7]
  simpa [Kd.slice] using this
 | succ i=>simp at hx
theorem entS_step (l:List Int) (m p:Nat) (es:List (List Int)) (y:List Int) (hy:0<es.length→y=es.getD (es.length-1) []) (f:Bool) (hf:f=decide (es.length=0)) :
  entS l (m+1) p es=if (yc1 l p y f).2.2=0 then entS l m (yc1 l p y f).2.1 (es++[(yc1 l p y f).1]) else ([],0,(yc1 l p y f).2.2):=by
 rw[entS]
 by_cases h1:(ycv l p).2.2=0
 ·rw[if_pos h1]
  by_cases h2:0<es.length
  ·have hf0:f=false:=by rw[hf];exact decide_eq_false (by omega)
   subst hf0
   rw[← hy h2]
   by_cases h3:cmpL (ycv l p).1 y≤0
   ·have hE:yc1 l p y false=([],0,5):=by
     unfold yc1
     rw[if_pos h1,if_pos ⟨rfl,h3⟩]
    rw[hE,if_pos ⟨h2,h3⟩,if_neg (by simp)]
   ·have hE:yc1 l p y false=ycv l p:=by
     unfold yc1
     rw[if_pos h1,if_neg (fun h=>h3 h.2)]
    rw[hE,if_neg (fun h=>h3 h.2),if_pos h1]
  ·have hf0:f=true:=by rw[hf];exact decide_eq_true (by omega)
   subst hf0
   have hE:yc1 l p y true=ycv l p:=by
    unfold yc1
    rw[if_pos h1,if_neg (fun h=>by simp at h)]
   rw[hE,if_neg (fun h=>h2 h.1),if_pos h1]
 ·have hE:yc1 l p y f=([],0,(ycv l p).2.2):=by
   unfold yc1
   rw[if_neg h1]
  rw[if_neg h1,hE,if_neg h1]
theorem entryS_le {l:List Int} (hb:Bys l) {p:Nat} {y:List Int} {f:Bool} (h:(yc1 l p y f).2.2=0):(yc1 l p y f).2.1≤l.length∧(yc1 l p y f).1.length≤200∧Bys (yc1 l p y f).1:=by
 unfold yc1 at h ⊢
 by_cases h1:(ycv l p).2.2=0
 ·rw[if_pos h1] at h ⊢
  split at h
  ·simp at h
  ·rename_i h2
   rw[if_neg h2]
   have:=yof hb h1
   exact⟨this.1,this.2.1,this.2.2.1⟩
 ·rw[if_neg h1] at h
  exact absurd h h1
theorem ypj (A:Option Addr) (c:Nat) (l:List Int) (w:World) (hC:Kd.C (Kd.int .u8) w A l.length l) (hc:l.length≤c) (hl:Bys l) (hlen:l.length≤140737488355328) :
  Calls Tryz.prog 70 #[.slice A l.length c] w fun e w'=>∃ v,e=.returned (.tuple #[v,.int .i64 (decS l).2])∧Below w.heap.size w w'∧EntB w' w.heap.size v (decS l).1:=by
 obtain⟨kg,hkg⟩:=(get_ev l 0 hl (by omega) (by omega)).ex
 obtain⟨n,hv⟩:∃ n,n=(vget l 0).1:=⟨_,rfl⟩
 obtain⟨q,hq⟩:∃ q,q=(vget l 0).2.1:=⟨_,rfl⟩
 obtain⟨e,he⟩:∃ e,e=(vget l 0).2.2:=⟨_,rfl⟩
 rw[← hv,← hq,← he] at hkg
 by_cases h1:e=0
 ·subst h1
  have hle:=(yeh hl he.symm).1
  rw[← hq] at hle
  by_cases h2:4096<n
  ·have ht:decS l=([],4):=by
    unfold decS
    rw[if_pos he.symm,if_pos (by omega)]
   rw[ht]
   clear ht hv hq he
   go_enter Tryz.func70,Tryz.ntmps70
   go_wp2_with (first
    | (go_at_call 39;refine(ya0.calls kg A c l 0 (n:Int) (q:Int) 0 w hC hc hkg).mono ?_;rintro e w1 ⟨rfl,hD⟩))
   go_ret2
   exact⟨_,rfl,hD.below,EntB.nil _ _⟩
  ·have ht:decS l=if (entS l n q []).2.2=0 then decT l (entS l n q []).1 (entS l n q []).2.1 else ([],(entS l n q []).2.2):=by
    unfold decS
    rw[if_pos he.symm,if_neg (by omega),← hv,← hq]
   generalize decS l=R at ht ⊢
   have HR0:=Lib.hid ht
   clear ht hv hq he
   go_enter Tryz.func70,Tryz.ntmps70
   go_wp2_with (first
    | (go_at_call 39;refine(ya0.calls kg A c l 0 (n:Int) (q:Int) 0 w hC hc hkg).mono ?_;rintro e w1 ⟨rfl,hD⟩))
   have hB1:=hD.below
   clear hkg hD
   go_loopw [5,6,7,8,26] (fun v5 v6 v7 v8 vi wq=>∃ (i p:Nat) (es:List (List Int)) (y:List Int) (B:Option Addr) (d:Nat) (vs:List Value),i≤n∧vi=.int .u64 i∧v5=.int .i64 p∧v6=.int .i64 0∧v8=.slice B y.length d∧Kd.C (Kd.int .u8) w B y.length y∧Bys y∧es.length=i∧p≤l.length ∧
     entS l n q []=entS l (n-i) p es∧(0<es.length→y=es.getD (es.length-1) [])∧(∀ s∈es,s.length≤200)∧wq.ownsRow w.heap.size 25 1 v7 es.length vs∧yf9 w vs es∧Below w.heap.size w wq) (fun _ _ _ _ vi _=>n-(intOf vi).toNat)
   case atStart=>exact⟨0,q,[],[],none,0,[],by omega,rfl,rfl,rfl,rfl,Kd.C_nil _ _,fun x h=>by simp at h,rfl,hle,rfl,fun h=>absurd h (by simp),fun s h=>by simp at h,yhj _ _ _ _,yf9.nil w,hB1⟩
   case round =>
    obtain⟨i,p,es,y,B,d,vs,hi,rfl,rfl,rfl,rfl,hY,hy,hei,hp,hS,hlast,hes,hR,hSh,hbr⟩:=hrel
    by_cases hlt:i<n
    ·have hf:((i:Int) == 0)=decide (es.length=0):=by
      rw[hei]
      by_cases h:i=0
      ·subst h;rfl
      ·rw[decide_eq_false h]
       exact beq_eq_false_iff_ne.2 (by omega)
     have hstep:=entS_step l (n-i-1) p es y hlast ((i:Int) == 0) hf
     rw[show n-i=(n-i-1)+1 from by omega,hstep] at hS
     clear hf hstep
     obtain⟨A8,c8,rfl,hc8,_⟩:=yge hR
     obtain⟨i0,hi0,hz0,hz1,hz2⟩:=info_parts ygm
     have hY1:=Kd.C_below hY hbr
     have hC1:=Kd.C_below hC hbr
     obtain⟨r,hr⟩:∃ r,r=yc1 l p y ((i:Int) == 0):=⟨_,rfl⟩
     have hcall:=yq2 A B c d l y p ((i:Int) == 0) wr hC1 hc hY1 hl hy hlen hp
     have hre:=entryS_le (l:=l) (p:=p) (y:=y) (f:=((i:Int) == 0)) hl
     rw[← hr] at hS hcall hre
     have HR:=Lib.hid hR;have HSh:=Lib.hid hSh;have HEI:=Lib.hid hei
     clear hr hR hSh hlast hY1 hC1 hY
     by_cases hr0:r.2.2=0
     ·rw[if_pos hr0] at hS
      obtain⟨k1,k2,k3⟩:=hre hr0
      rw[hr0] at hcall
      have HS:=Lib.hid hS
      have hei1:es.length≤4096:=by omega
      clear hS hei hre
      go_wp2_with (first
       | (go_at_call 109;refine hcall.mono ?_;rintro e w2 ⟨hD,A5,c5,rfl,hc5,hC5⟩;have hR2:=yhc HR.out hD.below;have hb2:=yad hbr hbr.size hD.below;have hsz2:=hb2.size)
       | (at_builtin;refine wpList_append_own _ rfl _ _ 46 rfl w.heap.size 25 i0 (.slice none 0 0) 1 24 Tryz.underlying46 hi0 hz0 hz1 hz2 rfl (by decide) _ _ _ rfl (yhr hR2 _) ⟨w2.heap.size,0,none⟩ 1 1 [.slice A5 r.1.length c5] rfl (by simp) (cell_one_new _ _ _) (by simp [Value.oneCell']) (by unfold maxLen;omega) (by omega) (by simp;omega) ?_;intro v' w4 hown4 hgrow4 hnil4))
      have hei:=HEI.out
      refine⟨⟨i+1,r.2.1,es++[r.1],r.1,A5,c5,vs++[.slice A5 r.1.length c5],by omega,by go_num,rfl,rfl,rfl,hC5 w hC,k3,by simp [hei],k1,by rw[HS.out,show n-(i+1)=n-i-1 from by omega],fun _=>?_,fun s hs=>?_,by rw[List.length_append];exact hown4,yf9.snoc HSh.out hc5 (hC5 w hC),(hb2.alloc hb2.size _).grown hgrow4 (by simp;omega) (fun k hk=>yd1 HR.out k hk)⟩,by simp [intOf];omega⟩
      ·simp
      ·rcases List.mem_append.1 hs with hs|hs
       ·exact hes s hs
       ·rw[List.mem_singleton.1 hs];exact k2
     ·rw[if_neg hr0] at hS
      have HS:=Lib.hid hS
      clear hS hei hre
      go_wp2_with (first
       | (go_at_call 109;refine hcall.mono ?_;rintro e w2 ⟨hD,A5,c5,rfl,hc5,hC5⟩;have hb2:=yad hbr hbr.size hD.below))
      go_ret2
      have hRv:R=([],r.2.2):=by rw[HR0.out,HS.out];exact if_neg hr0
      rw[hRv]
      exact⟨_,rfl,hb2,EntB.nil _ _⟩
    ·obtain rfl:i=n:=by omega
     rw[Nat.sub_self,entS] at hS
     obtain⟨A7,c7,rfl,hc7,hC7⟩:=hSh.reads hbr hR
     have hC1:=Kd.C_below hC hbr
     have hel:es.length≤4096:=by omega
     obtain⟨kg,hkg⟩:=(get_ev l p hl (by omega) hp).ex
     have hdt:R=decT l es p:=by
      rw[HR0.out,hS]
      rfl
     have HDT:=Lib.hid hdt
     clear hdt hS hY hy hlast hSh hR
     subst hei
     obtain⟨m,hv⟩:∃ m,m=(vget l p).1:=⟨_,rfl⟩
     obtain⟨q2,hq⟩:∃ q2,q2=(vget l p).2.1:=⟨_,rfl⟩
     obtain⟨e,he⟩:∃ e,e=(vget l p).2.2:=⟨_,rfl⟩
     rw[← hv,← hq,← he] at hkg
     by_cases h3:e=0
     ·subst h3
      have hle2:=(yeh hl he.symm).1
      rw[← hq] at hle2
      by_cases h4:4096<m
      ·have ht:decT l es p=([],4):=by
        unfold decT
        rw[if_pos he.symm,if_pos (by omega)]
       have HT:=Lib.hid ht
       clear ht hv hq he
       go_wp2_with (first
        | (go_at_call 39;refine(ya0.calls kg A c l (p:Int) (m:Int) (q2:Int) 0 wr hC1 hc hkg).mono ?_;rintro e w1 ⟨rfl,hD⟩))
       go_ret2
       rw[HDT.out,HT.out]
       exact⟨_,rfl,yad hbr hbr.size hD.below,EntB.nil _ _⟩
      ·have ht:decT l es p=if (yci (l.drop q2) (wid es.length) m).2=0 then yfm es (yci (l.drop q2) (wid es.length) m).1 else ([],(yci (l.drop q2) (wid es.length) m).2):=by
        unfold decT
        rw[if_pos he.symm,if_neg (by omega),← hq,← hv]
       have HT:=Lib.hid ht
       clear ht hv hq he
       go_upto_region 21 with (first
        | (go_at_call 39;refine(ya0.calls kg A c l (p:Int) (m:Int) (q2:Int) 0 wr hC1 hc hkg).mono ?_;rintro e w1 ⟨rfl,hD⟩))
       have hb1:=hD.below
       obtain⟨i5,hi5,hz0,hz1,hz2⟩:=info_parts yb9
       have hcut:=yl1 (P:=Tryz.prog) 25 5 .i64 Tryz.underlying25 hi5 1 hz1 A l.length c (q2:Int) (by omega) (by omega)
       rw[Int.toNat_natCast] at hcut
       have hdr0:∀ w0,Kd.C (Kd.int .u8) w0 A l.length l→Kd.C (Kd.int .u8) w0 (if c=q2 then A else A.map (·.add (q2*1))) (l.drop q2).length (l.drop q2):=fun w0 h0=>Kd.C_drop h0 hle2 hc
       have hdl:(l.drop q2).length=l.length-q2:=List.length_drop
       generalize (if c=q2 then A else A.map (·.add (q2*1)))=A9 at *
       have hdr:=hdr0 wr (Kd.C_below hC hbr)
       obtain⟨b9,hb9⟩:∃ b9,b9=l.drop q2:=⟨_,rfl⟩
       have hby9:Bys b9:=by rw[hb9];exact hl.drop _
       rw[← hb9] at hdr hdl
       have HT1:=HT.out
       rw[← hb9] at HT1
       have HT2:=Lib.hid HT1
       rw[← hdl] at hcut
       have hle9:b9.length≤c-q2:=by omega
       have hw12:=yje es.length hel
       obtain⟨kw,hkw⟩:=(yml es.length (by omega)).ex
       obtain⟨ku,hku⟩:=(ymy hby9 (by omega) (w:=wid es.length) (m:=m) (by omega) (by omega)).ex
       obtain⟨ru,hru⟩:∃ ru,ru=yci b9 (wid es.length) m:=⟨_,rfl⟩
       rw[← hru] at hku HT1
       clear hdr0 hb9 hi5 hz0 hz1 hz2 hdl HT1 hkg
       have HRU:=Lib.hid hru
       have hwm:IntKind.i64.wrap (m:Int)=(m:Int):=ydv _ (by omega) (by omega)
       clear hru
       go_region_held3 (fun w'=>True) (trivial) (first
        | (go_at_call 110;refine(ygo.calls kw ((es.length:Nat):Int) ((wid es.length:Nat):Int) _ hkw).mono ?_;rintro e w3 ⟨rfl,hb3⟩;have hb3w:Below wr.heap.size wr w3:=yad (by first|exact hb1|exact yat hb1|exact yab hb1 _) (by first|exact hb1.size|exact(yat hb1).size|exact(yab hb1 _).size) hb3)
        | (go_at_call 63;refine(yaz.calls ku A9 (c-q2) b9 ((wid es.length:Nat):Int) (m:Int) ru.1 ru.2 _ (by first|exact Kd.C_below hdr hb3w|exact Kd.C_drew (Kd.C_below hdr hb3w)|exact Kd.C_drewN (Kd.C_below hdr hb3w) _) hle9 hku).mono ?_;rintro e w4 ⟨v11,rfl,hR11,hb4⟩;have hb4w:Below wr.heap.size wr w4:=yad (by first|exact hb3w|exact yat hb3w|exact yab hb3w _) (by first|exact hb3w.size|exact(yat hb3w).size|exact(yab hb3w _).size) hb4))
       all_goals
        obtain⟨B4,c4,rfl,hc4,hC4⟩:=Kd.R_reads hR11
        have hCe:=Kd.C_below hC7 hb4w
        by_cases hr2:ru.2=0
        ·have hrt:R=yfm es ru.1:=by
          rw[HDT.out,HT2.out,← HRU.out,if_pos hr2]
         have hun:∀ u∈ru.1,0≤u∧u<18446744073709551616:=fun u hu=>by
          have e:ru=(ru.1,0):=by rw[← hr2]
          have:=HRU.out
          rw[e] at this
          have h7:=(ygf hby9 this.symm).2.1 u hu
          have h8:(2:Int)^wid es.length≤2^12:=by
           have:2^wid es.length≤2^12:=Nat.pow_le_pow_right (n:=2) (by decide) hw12
           exact_mod_cast this
          omega
         have hul:ru.1.length≤4096:=by
          have:=yp3 (b:=b9) (w:=wid es.length) (m:=m)
          rw[← HRU.out] at this
          omega
         have HRT:=Lib.hid hrt
         have hcall:=yrd A7 B4 c7 c4 es ru.1 w4 hCe hc7 hC4 hc4 hel hul hes hun
         clear hrt hun hCe hC7 hC4 hdr hC1 hR11
         go_wp2_with (first
          | (go_at_call 111;refine hcall.mono ?_;rintro e w5 ⟨v5,rfl,hb5,hE5⟩))
         go_ret2
         rw[HRT.out]
         have hb4z:=yad hbr hbr.size hb4w
         exact⟨_,rfl,yad hb4z hb4z.size hb5,hE5.lower hb4z.size⟩
        ·have hrt:R=([],ru.2):=by
          rw[HDT.out,HT2.out,← HRU.out,if_neg hr2]
         have HRT:=Lib.hid hrt
         clear hrt hCe hC7 hC4 hdr hC1 hR11
         go_wp2
         go_ret2
         rw[HRT.out]
         exact⟨_,rfl,yad hbr hbr.size hb4w,EntB.nil _ _⟩
     ·have ht:decT l es p=([],e):=by
       unfold decT
       rw[← he,if_neg h3]
      have HT:=Lib.hid ht
      clear ht hv hq he
      go_wp2_with (first
       | (go_at_call 39;refine(ya0.calls kg A c l (p:Int) (m:Int) (q2:Int) e wr hC1 hc hkg).mono ?_;rintro e w1 ⟨rfl,hD⟩))
      go_ret2
      rw[HDT.out,HT.out]
      exact⟨_,rfl,yad hbr hbr.size hD.below,EntB.nil _ _⟩
 ·have ht:decS l=([],e):=by
   unfold decS
   rw[← he,if_neg h1]
  rw[ht]
  clear ht hv hq he
  go_enter Tryz.func70,Tryz.ntmps70
  go_wp2_with (first
   | (go_at_call 39;refine(ya0.calls kg A c l 0 (n:Int) (q:Int) e w hC hc hkg).mono ?_;rintro e w1 ⟨rfl,hD⟩))
  go_ret2
  exact⟨_,rfl,hD.below,EntB.nil _ _⟩
end Go.Proofs.YteeikgjjgfdjgaaGreat.PK
end
section
namespace Go.Proofs.YteeikgjjgfdjgaaGreat.PK
open Go.RowKit YteeikgjjgfdjgaaGreatW.PrintWords YteeikgjjgfdjgaaGreatW.PrintLast YteeikgjjgfdjgaaGreatW.PrintMore
set_option linter.unusedVariables false
set_option linter.unusedSimpArgs false
theorem radd_came {w0 W:World} {v:Value} {x ys:List Int} {A:Option Addr} {c:Nat} (hR:Kd.R (Kd.int .u8) 5 W w0.heap.size (fun _=>True) v x) (hb:Below w0.heap.size w0 W) (hC:Kd.C (Kd.int .u8) w0 A ys.length ys) (hc:ys.length≤c) (hl:x.length+ys.length≤140737488355328) :
  Calls Tryz.prog 57 #[v,.slice A ys.length c] W fun e w'=>∃ v',e=.returned v'∧Kd.R (Kd.int .u8) 5 w' w0.heap.size (fun _=>True) v' (x++ys)∧Below w0.heap.size w0 w'∧Kept W w' (fun k=>some k=v.ownBlock):=by
 obtain⟨k,hk⟩:=(add_ev x ys hl).ex
 refine(ybw.calls k (fun k=>some k=v.ownBlock) v x A c ys _ w0 W hb (Kd.R_tight rfl hR) (Kd.C_kept_came (Kd.heap_int .u8) hC hb (fun k hk=>Kd.R_base hR k hk.symm)) hc hk).mono ?_
 rintro e w' ⟨v',rfl,h1,h2,h3⟩
 exact⟨v',rfl,Kd.R_mono h1 (fun _ _=>trivial),h2,h3⟩
theorem yhg {w0 W:World} {N:Nat} {v u:Value} {x ys:List Int} (hR:Kd.R (Kd.int .u8) 5 W w0.heap.size (fun _=>True) v x) (hb:Below w0.heap.size w0 W) (hv:∀ k,v.ownBlock=some k→k<N) (hu:Kd.R (Kd.int .u8) 5 W N (fun _=>True) u ys) (hl:x.length+ys.length≤140737488355328) :
  Calls Tryz.prog 57 #[v,u] W fun e w'=>∃ v',e=.returned v'∧Kd.R (Kd.int .u8) 5 w' w0.heap.size (fun _=>True) v' (x++ys)∧Below w0.heap.size w0 w'∧Kept W w' (fun k=>some k=v.ownBlock):=by
 obtain⟨k,hk⟩:=(add_ev x ys hl).ex
 obtain⟨A,c,rfl,hc,_⟩:=Kd.R_reads hu
 refine(ybw.calls k (fun k=>some k=v.ownBlock) v x A c ys _ w0 W hb (Kd.R_tight rfl hR) (Kd.C_kept_own (Kd.R_bound hu) (fun k hk he=>by have h1:=hk.2.1;have h2:=hv k he.symm;omega)) hc hk).mono ?_
 rintro e w' ⟨v',rfl,h1,h2,h3⟩
 exact⟨v',rfl,Kd.R_mono h1 (fun _ _=>trivial),h2,h3⟩
theorem yrg {w0 W:World} {v:Value} {x ys:List Int} {A:Option Addr} {c n:Nat} (hn:n=ys.length) (hR:Kd.R (Kd.int .u8) 5 W w0.heap.size (fun _=>True) v x) (hb:Below w0.heap.size w0 W) (hC:Kd.C (Kd.int .u8) w0 A n ys) (hc:n≤c) (hl:x.length+ys.length≤140737488355328) :
  Calls Tryz.prog 57 #[v,.slice A n c] W fun e w'=>∃ v',e=.returned v'∧Kd.R (Kd.int .u8) 5 w' w0.heap.size (fun _=>True) v' (x++ys)∧Below w0.heap.size w0 w'∧Kept W w' (fun k=>some k=v.ownBlock):=by
 subst hn
 exact radd_came hR hb hC hc hl
theorem ykb (A:Option Addr) (n c:Nat):∀ u∈[Value.slice A n c],u.oneCell'=true:=by
 intro u hu
 obtain rfl:=List.mem_singleton.1 hu
 rfl
theorem yia {α:Type} {d:Kd α} {e base base':Nat} {W W2:World} {u v:Value} {xs:List α} {ys:List Int} (h:Kd.R d e W base (fun _=>True) u xs) (hv:Kd.R (Kd.int .u8) 5 W base' (fun _=>True) v ys) (hE:d.E=[]) (ht:e≠5) (hk:Kept W W2 (fun k=>some k=v.ownBlock)):Kd.R d e W2 base (fun _=>True) u xs:=by
 refine Kd.R_mono (Kd.R_step (Kd.R_bound h) (fun k hk' hl=>hk.2 k hl (fun he=>?_))) (fun _ _=>trivial)
 obtain⟨_,_,_,q,hq,cells,hc⟩:=hk'
 obtain⟨c2,h2⟩:=Kd.R_typed hv k he.symm
 rw[hc] at h2
 injection h2 with h2
 injection h2 with _ h2 _
 rw[hE,List.mem_singleton] at hq
 exact ht (hq.symm.trans h2)
def ykv (w0:World) (v:Value) (W:World) (base:Nat) (es:List (List Int)):Prop:=∃ vs:List Value,yf9 w0 vs es∧Kd.R (Kd.raw 1) 25 W base (fun _=>True) v (vs.map fun u=>[u])
theorem ykv.reads {w0 W:World} {v:Value} {base:Nat} {es:List (List Int)} (h:ykv w0 v W base es) (hb:Below w0.heap.size w0 W):∃ A c,v=.slice A es.length c∧es.length≤c∧Kd.C (Kd.slice 5 (Kd.int .u8)) W A es.length es:=by
 obtain⟨vs,hs,hR⟩:=h
 obtain⟨hok,inner,ho,hr⟩:=hR
 have hin:inner=vs:=by
  apply List.ext_getElem (by have:=hr.1;rw[List.length_map,show(Kd.raw 1).sz=1 from rfl,Nat.mul_one] at this;exact this)
  intro j h1 h2
  have h3:=(hr.2 j [vs[j]] (by rw[List.getElem?_map,List.getElem?_eq_getElem h2];rfl)).1
  have h4:(inner.drop (j*1)).take 1=[inner[j]]:=by rw[Nat.mul_one,List.drop_eq_getElem_cons h1];rfl
  have h5:[inner[j]]=[vs[j]]:=by rw[← h4];exact h3
  injection h5
 rw[List.length_map,hs.1,hin] at ho
 exact hs.reads hb ho
theorem ylc {α:Type} (d:Kd α) (W:World) (e base:Nat) (hb:base≤W.heap.size):Kd.R d e (W.alloc (.cells #[] e)) base (fun _=>True) (.slice (some ⟨W.heap.size,0,none⟩) 0 0) []:=
 ⟨fun _ _=>trivial,[],World.ownsRow_lit W #[] 0 hb (by decide) (by simp),Reps.none _ _⟩
theorem yl6 {kind:Int} {cs:List Cel} {i:Nat} (hi:i<cs.length) (h0:¬ cs[i].f0=true):ycm (cs.take (i+1))=ycm (cs.take i)++[cs[i].f1]∧ybp (cs.take (i+1))=ybp (cs.take i)++[cs[i].f2]∧yda kind (cs.take (i+1))=yda kind (cs.take i)++yds kind cs[i]:=by
 have hs:=yj0 cs i hi
 unfold ycm ybp yda
 rw[hs,if_neg h0]
 simp
theorem yjj {kind:Int} {cs:List Cel} {i:Nat} (hi:i<cs.length) (h0:cs[i].f0=true):ycm (cs.take (i+1))=ycm (cs.take i)∧ybp (cs.take (i+1))=ybp (cs.take i)∧yda kind (cs.take (i+1))=yda kind (cs.take i):=by
 have hs:=yj0 cs i hi
 unfold ycm ybp yda
 rw[hs,if_pos h0]
 exact⟨rfl,rfl,rfl⟩
def BytesMade (w:World) (l:List Int) (e:Ending) (w':World):Prop:=∃ v,e=.returned v∧Kd.R (Kd.int .u8) 5 w' w.heap.size (fun _=>True) v l∧Below w.heap.size w w'
theorem yod {kind:Int} {cs:List Cel} (h:Fine kind cs) (h6:6<kind):(ybp cs).length≤4096∧∀ s∈ybp cs,s.length≤200:=by
 refine⟨h.texts.1,fun s hs=>?_⟩
 obtain⟨c,hc,rfl⟩:=List.mem_map.1 hs
 have hp:=h.plainly c hc
 unfold ycw at hp
 rw[if_neg (by omega)] at hp
 exact hp.2
theorem rbody_any (kind codec:Int) (A:Option Addr) (c:Nat) (cs:List Cel) (w:World) (hf:Fine kind cs) (hfit:ycz kind codec) (h:Kd.C k53 w A cs.length cs) (hc:cs.length≤c) :
  Calls Tryz.prog 60 #[.int .i64 kind,.int .i64 codec,.slice A cs.length c] w (BytesMade w (ycj kind codec cs).1):=by
 have hcl:=hf.len
 have HC:=Lib.hid h;have HF:=Lib.hid hf;have HFIT:=Lib.hid hfit
 clear h hf hfit
 go_enter Tryz.func60,Tryz.ntmps60
 go_upto_region 2 with (fail)
 have e1:=ylc (Kd.int .i64) w 2 w.heap.size (Nat.le_refl _)
 have e2:=ylc (Kd.raw 1) (w.alloc (.cells #[] 2)) 25 w.heap.size (by simp)
 have e3:=ylc (Kd.int .u8) ((w.alloc (.cells #[] 2)).alloc (.cells #[] 25)) 5 w.heap.size (by simp;omega)
 rw[show(w.alloc (.cells #[] 2)).heap.size=w.heap.size+1 by simp] at e2
 rw[show((w.alloc (.cells #[] 2)).alloc (.cells #[] 25)).heap.size=w.heap.size+1+1 by simp] at e3
 have hb0:=Lib.hid (yak (yak (yak (Below.refl w.heap.size w) (.cells #[] 2)) (.cells #[] 25)) (.cells #[] 5))
 have E7:=Lib.hid (Kd.R_alloc (Kd.R_alloc e1 (.cells #[] 25)) (.cells #[] 5))
 have E8:=Lib.hid (Kd.R_alloc e2 (.cells #[] 5))
 have E9:=Lib.hid e3
 clear e1 e2 e3
 generalize ((w.alloc (.cells #[] 2)).alloc (.cells #[] 25)).alloc (.cells #[] 5)=w3 at *
 go_wp2
 go_loopw [7,8,9,10] (fun v7 v8 v9 vi wq=>∃ (i:Nat) (vs8:List Value),i≤cs.length∧vi=.int .i64 i∧RowKit.Hid (Kd.R (Kd.int .i64) 2 wq w.heap.size (fun _=>True) v7 (ycm (cs.take i)))∧RowKit.Hid (yf9 w vs8 (ybp (cs.take i))∧Kd.R (Kd.raw 1) 25 wq w.heap.size (fun _=>True) v8 (vs8.map fun u=>[u]))∧RowKit.Hid (Kd.R (Kd.int .u8) 5 wq w.heap.size (fun _=>True) v9 (yda kind (cs.take i)))∧RowKit.Hid (Below w.heap.size w wq)) (fun _ _ _ vi _=>cs.length-(intOf vi).toNat)
 case atStart=>exact⟨0,[],Nat.zero_le _,rfl,Lib.hid (by rw[List.take_zero];exact E7.out),Lib.hid (by rw[List.take_zero];exact⟨yf9.nil _,E8.out⟩),Lib.hid (by rw[List.take_zero];exact E9.out),hb0⟩
 case round =>
  obtain⟨i,vs8,hi9,rfl,H7,H8,H9,HB⟩:=hrel
  clear E7 E8 E9 hb0
  by_cases hlt:i<cs.length
  ·obtain⟨ad,A2,c2,rfl,hx0,hx1,hx2,hl2,hC2⟩:=ye2 HC.out (i:Int) (by omega) (by omega)
   rw[ygj hlt,Int.toNat_natCast] at *
   have h1w:=hx1
   have h2w:=hx2
   replace hx0:=(HB.out.cell (World.block_lt_of_cell? w _ hx0)).trans hx0
   replace hx1:=(HB.out.cell (World.block_lt_of_cell? w _ hx1)).trans hx1
   replace hx2:=(HB.out.cell (World.block_lt_of_cell? w _ hx2)).trans hx2
   by_cases h0:cs[i].f0=true
   ·obtain⟨m1,m2,m3⟩:=yjj (kind:=kind) hlt h0
    rw[h0] at hx0
    rw[← m1] at H7
    rw[← m2] at H8
    rw[← m3] at H9
    clear m1 m2 m3 h0 hC2 h1w h2w
    obtain⟨A7,c7,rfl⟩:=Kd.R_slice H7.out
    obtain⟨A8,c8,rfl⟩:=Kd.R_slice H8.out.2
    obtain⟨A9,c9,rfl⟩:=Kd.R_slice H9.out
    go_wp2
    go_roundw
    case rel=>exact⟨i+1,vs8,hlt,by go_num,H7,H8,H9,HB⟩
    case measure=>simp [intOf];omega
   ·obtain⟨m1,m2,m3⟩:=yl6 (kind:=kind) hlt h0
    have hpl:=HF.out.plainly cs[i] (ydq.2 ⟨List.getElem_mem hlt,by simpa using h0⟩)
    have hI:=(HF.out.ok cs[i] (List.getElem_mem hlt)).1
    have hpcl:=yh3 hpl
    have hsub:∀ c∈ydd (cs.take i),ycw kind c:=fun c hm=>HF.out.plainly c (ydq.2 ⟨List.mem_of_mem_take (ydq.1 hm).1,(ydq.1 hm).2⟩)
    have htl:(ydd (cs.take i)).length≤4096:=Nat.le_trans (List.length_filter_le _ _) (by rw[List.length_take];omega)
    have hpsl:(yda kind (cs.take i)).length≤210*(ydd (cs.take i)).length:=yg2 hsub
    have hnl:(ycm (cs.take i)).length≤4096:=by unfold ycm;rw[List.length_map];exact htl
    have hxl:(ybp (cs.take i)).length≤4096:=by unfold ybp;rw[List.length_map];exact htl
    have hvl:(vs8.map fun u=>[u]).length≤4096:=by rw[List.length_map,H8.out.1.1];exact hxl
    have h0f:cs[i].f0=false:=by simpa using h0
    rw[h0f] at hx0
    obtain⟨hsh,hR8⟩:=H8.out
    have hsh1:=hsh.snoc hl2 hC2
    rw[← m2] at hsh1
    have HSH:=Lib.hid hsh1;have HM1:=Lib.hid m1;have HM3:=Lib.hid m3;have HR8:=Lib.hid hR8
    have hplb:(yda kind (cs.take i)).length≤1000000:=by omega
    have HPB:=Lib.hid hplb;have HNL:=Lib.hid hnl;have HVL:=Lib.hid hvl;have HC2:=Lib.hid hC2
    generalize ycm (cs.take i)=N at *
    generalize yda kind (cs.take i)=P at *
    generalize ybp (cs.take i)=T at *
    obtain⟨x,hx⟩:∃ x,x=cs[i]:=⟨_,rfl⟩
    rw[← hx] at hx1 hx2 hl2 HC2 HSH HM1 HM3 hpcl hI h1w h2w
    have HLT:=Lib.hid hlt
    obtain⟨fx0,fx1,fx2⟩:=x
    simp only at hx1 hx2 hl2 HC2 HSH HM1 hI h1w h2w
    obtain⟨sl,hsl⟩:∃ sl,sl=fx2.length:=⟨_,rfl⟩
    have HSL:=Lib.hid hsl
    rw[← hsl] at hx2 h2w
    rw[← HSL.out] at hl2
    have HX1:RowKit.Hid (w.cell? _=some (.int .i64 fx1)):=Lib.hid ((HB.out.cell (World.block_lt_of_cell? w _ h1w)).symm.trans hx1)
    have HX2:RowKit.Hid (w.cell? _=some (.slice A2 sl c2)):=Lib.hid ((HB.out.cell (World.block_lt_of_cell? w _ h2w)).symm.trans hx2)
    clear h1w h2w
    clear H8 hsh hR8 hsh1 m1 m2 m3 hpl hsub htl hpsl hnl hxl hvl hplb h0 h0f hC2 hx hsl hlt
    by_cases hk6:kind≤6
    ·have e2:yds kind ⟨fx0,fx1,fx2⟩=vput (ycg fx1):=by unfold yds;rw[if_pos hk6]
     rw[e2] at HM3 hpcl
     have hfl:=yky hI
     obtain⟨kp,hkp⟩:=(ye8 (ycg fx1) (yfd hI)).ex
     have hys:P.length+(vput (ycg fx1)).length≤140737488355328:=by have:=HPB.out;omega
     generalize vput (ycg fx1)=ys at *
     generalize ((ycg fx1:Nat):Int)=fo at *
     have HFL:=Lib.hid hfl;have HKP:=Lib.hid hkp;have HYS:=Lib.hid hys
     clear hfl hkp hys e2 hpcl hI
     go_upto_region 7 with (at_builtin;refine Kd.R_append (Kd.int .i64) (w0:=w) w.heap.size rfl (.tmp 34) (.tmp 40) 94 2 (.int .i64 0) 8 rfl Tryz.underlying94 yk7 rfl (by decide) (by decide) _ N fx1 [.int .i64 fx1] (fun _=>True) (fun _=>False) rfl rfl rfl (fun _ hk=>hk.elim) (fun _ _=>trivial) H7.out HB.out HB.out.size (by have:=HNL.out;omega) ?_;intro v7 w7 hR7 hb7 hg7 hat7;have J7:=Lib.hid hR7;have J8:=Lib.hid (Kd.R_over' HR8.out (Kd.R_typed H7.out) (by decide) hg7);have J9:=Lib.hid (Kd.R_over' H9.out (Kd.R_typed H7.out) (by decide) hg7);have JB:=Lib.hid hb7;clear hR7 hb7 hg7 hat7)
     replace hx1:=(JB.out.cell (World.block_lt_of_cell? w _ HX1.out)).trans HX1.out
     replace hx2:=(JB.out.cell (World.block_lt_of_cell? w _ HX2.out)).trans HX2.out
     go_upto_region 8 with (at_builtin;refine Kd.R_append (Kd.raw 1) (w0:=w) w.heap.size rfl (.tmp 42) (.tmp 48) 46 25 (.slice none 0 0) 24 rfl Tryz.underlying46 ygm rfl (by decide) (by decide) _ (vs8.map fun u=>[u]) [.slice A2 sl c2] [.slice A2 sl c2] (fun _=>True) (fun _=>False) rfl rfl ⟨rfl,rfl,ykb A2 sl c2⟩ (fun _ hk=>hk.elim) (fun _ _=>trivial) J8.out JB.out JB.out.size (by have:=HVL.out;omega) ?_;intro v8 w8 hR8 hb8 hg8 hat8;have L8:=Lib.hid hR8;have L7:=Lib.hid (Kd.R_over' J7.out (Kd.R_typed J8.out) (by decide) hg8);have L9:=Lib.hid (Kd.R_over' J9.out (Kd.R_typed J8.out) (by decide) hg8);have LB:=Lib.hid hb8;clear hR8 hb8 hg8 hat8)
     clear J7 J8 J9 JB H7 HR8 H9 HB
     replace hx1:=(LB.out.cell (World.block_lt_of_cell? w _ HX1.out)).trans HX1.out
     replace hx2:=(LB.out.cell (World.block_lt_of_cell? w _ HX2.out)).trans HX2.out
     go_wp2_with (first
      | (go_at_call 95;refine(ydm.calls _ _ _ HFL.out).mono ?_;rintro e w9 ⟨rfl,⟨m9,rfl⟩⟩)
      | (go_at_call 58;refine(yae.calls kp _ _ _ HKP.out).mono ?_;rintro e w10 ⟨v10,rfl,hR10,hb10⟩;have M7:=Lib.hid (Kd.R_below (Kd.R_drewN L7.out m9) hb10);have M8:=Lib.hid (Kd.R_below (Kd.R_drewN L8.out m9) hb10);have M9:=Lib.hid (Kd.R_below (Kd.R_drewN L9.out m9) hb10);have MB:=Lib.hid ((fun(hx:Below w.heap.size w (w8.drewN m9))=>yad hx hx.size hb10) (yab LB.out _));have MV:=Lib.hid (Kd.R_lt (Kd.R_drewN L9.out m9));have MU:=Lib.hid hR10;clear hR10 hb10)
      | (go_at_call 57;refine(yhg M9.out MB.out MV.out MU.out HYS.out).mono ?_;rintro e w11 ⟨v11,rfl,hR11,hb11,hk11⟩;have P7:=Lib.hid (yia M7.out M9.out rfl (by decide) hk11);have P8:=Lib.hid (yia M8.out M9.out rfl (by decide) hk11);have P9:=Lib.hid hR11;have PB:=Lib.hid hb11;clear hR11 hb11 hk11))
     go_roundw
     case rel=>exact⟨i+1,vs8++[.slice A2 sl c2],HLT.out,by go_num,Lib.hid (by rw[HM1.out];exact P7.out),Lib.hid ⟨by have:=HSH.out;rw[HSL.out];exact this,by rw[List.map_append];exact P8.out⟩,Lib.hid (by rw[HM3.out];exact P9.out),PB⟩
     case measure=>have:=HLT.out;simp [intOf];omega
    ·have e2:yds kind ⟨fx0,fx1,fx2⟩=vput fx2.length++fx2:=by unfold yds;rw[if_neg hk6]
     rw[e2] at HM3 hpcl
     have hsm:fx2.length<18446744073709551616:=by rw[List.length_append] at hpcl;omega
     obtain⟨kp,hkp⟩:=(ye8 fx2.length hsm).ex
     have hwu:IntKind.u64.wrap ((sl:Nat):Int)=(sl:Int):=by rw[HSL.out];exact wraps_u64 _ (by omega) (by omega)
     have hvl:vput fx2.length=vput sl:=by rw[HSL.out]
     rw[← HSL.out] at hkp
     rw[hvl] at HM3 hpcl
     have hys:P.length+(vput sl).length≤140737488355328:=by rw[List.length_append] at hpcl;have:=HPB.out;omega
     have hys2:(P++vput sl).length+fx2.length≤140737488355328:=by rw[List.length_append] at hpcl ⊢;have:=HPB.out;omega
     clear hvl
     generalize vput sl=ys at *
     have HKP:=Lib.hid hkp;have HYS:=Lib.hid hys;have HYS2:=Lib.hid hys2
     have HC2':=Lib.hid HC2.out
     have HCX:RowKit.Hid (Kd.C (Kd.int .u8) w A2 sl fx2):=Lib.hid (by rw[HSL.out];exact HC2.out)
     clear hkp hys hys2 e2 hpcl hI hsm HC2 HC2'
     go_upto_region 7 with (at_builtin;refine Kd.R_append (Kd.int .i64) (w0:=w) w.heap.size rfl (.tmp 34) (.tmp 40) 94 2 (.int .i64 0) 8 rfl Tryz.underlying94 yk7 rfl (by decide) (by decide) _ N fx1 [.int .i64 fx1] (fun _=>True) (fun _=>False) rfl rfl rfl (fun _ hk=>hk.elim) (fun _ _=>trivial) H7.out HB.out HB.out.size (by have:=HNL.out;omega) ?_;intro v7 w7 hR7 hb7 hg7 hat7;have J7:=Lib.hid hR7;have J8:=Lib.hid (Kd.R_over' HR8.out (Kd.R_typed H7.out) (by decide) hg7);have J9:=Lib.hid (Kd.R_over' H9.out (Kd.R_typed H7.out) (by decide) hg7);have JB:=Lib.hid hb7;clear hR7 hb7 hg7 hat7)
     replace hx1:=(JB.out.cell (World.block_lt_of_cell? w _ HX1.out)).trans HX1.out
     replace hx2:=(JB.out.cell (World.block_lt_of_cell? w _ HX2.out)).trans HX2.out
     go_upto_region 8 with (at_builtin;refine Kd.R_append (Kd.raw 1) (w0:=w) w.heap.size rfl (.tmp 42) (.tmp 48) 46 25 (.slice none 0 0) 24 rfl Tryz.underlying46 ygm rfl (by decide) (by decide) _ (vs8.map fun u=>[u]) [.slice A2 sl c2] [.slice A2 sl c2] (fun _=>True) (fun _=>False) rfl rfl ⟨rfl,rfl,ykb A2 sl c2⟩ (fun _ hk=>hk.elim) (fun _ _=>trivial) J8.out JB.out JB.out.size (by have:=HVL.out;omega) ?_;intro v8 w8 hR8 hb8 hg8 hat8;have L8:=Lib.hid hR8;have L7:=Lib.hid (Kd.R_over' J7.out (Kd.R_typed J8.out) (by decide) hg8);have L9:=Lib.hid (Kd.R_over' J9.out (Kd.R_typed J8.out) (by decide) hg8);have LB:=Lib.hid hb8;clear hR8 hb8 hg8 hat8)
     clear J7 J8 J9 JB H7 HR8 H9 HB
     replace hx1:=(LB.out.cell (World.block_lt_of_cell? w _ HX1.out)).trans HX1.out
     replace hx2:=(LB.out.cell (World.block_lt_of_cell? w _ HX2.out)).trans HX2.out
     go_upto_region 11 with (first
      | (go_at_call 58;refine(yae.calls kp _ _ _ HKP.out).mono ?_;rintro e w10 ⟨v10,rfl,hR10,hb10⟩;have M7:=Lib.hid (Kd.R_below L7.out hb10);have M8:=Lib.hid (Kd.R_below L8.out hb10);have M9:=Lib.hid (Kd.R_below L9.out hb10);have MB:=Lib.hid (yad LB.out LB.out.size hb10);have MV:=Lib.hid (Kd.R_lt L9.out);have MU:=Lib.hid hR10;clear hR10 hb10)
      | (go_at_call 57;refine(yhg M9.out MB.out MV.out MU.out HYS.out).mono ?_;rintro e w11 ⟨v11,rfl,hR11,hb11,hk11⟩;have P7:=Lib.hid (yia M7.out M9.out rfl (by decide) hk11);have P8:=Lib.hid (yia M8.out M9.out rfl (by decide) hk11);have P9:=Lib.hid hR11;have PB:=Lib.hid hb11;clear hR11 hb11 hk11;replace hx2:=(PB.out.cell (World.block_lt_of_cell? w _ HX2.out)).trans HX2.out))
     go_wp2_with (first
      | (go_at_call 57;refine(yrg HSL.out P9.out PB.out HCX.out hl2 HYS2.out).mono ?_;rintro e w12 ⟨v12,rfl,hR12,hb12,hk12⟩;have Q7:=Lib.hid (yia P7.out P9.out rfl (by decide) hk12);have Q8:=Lib.hid (yia P8.out P9.out rfl (by decide) hk12);have Q9:=Lib.hid hR12;have QB:=Lib.hid hb12;clear hR12 hb12 hk12))
     go_roundw
     case rel=>exact⟨i+1,vs8++[.slice A2 sl c2],HLT.out,by go_num,Lib.hid (by rw[HM1.out];exact Q7.out),Lib.hid ⟨by have:=HSH.out;rw[HSL.out];exact this,by rw[List.map_append];exact Q8.out⟩,Lib.hid (by rw[HM3.out,← List.append_assoc];exact Q9.out),QB⟩
     case measure=>have:=HLT.out;simp [intOf];omega
  ·obtain rfl:i=cs.length:=by omega
   have hta:cs.take cs.length=cs:=List.take_length
   rw[hta] at H7 H8 H9
   clear hta
   rcases HFIT.out with rfl|⟨_,rfl|rfl⟩|⟨h6,rfl|rfl⟩
   ·have hbo:(ycj kind 1 cs).1=yda kind cs:=by unfold ycj;rw[if_neg (by decide),if_neg (by decide),if_neg (by decide),if_neg (by decide)]
    have HBO:=Lib.hid hbo
    clear hbo
    obtain⟨A9,c9,rfl⟩:=Kd.R_slice H9.out
    generalize yda kind cs=P at *
    go_wp2
    go_ret
    exact⟨_,rfl,by rw[HBO.out];exact H9.out,HB.out⟩
   ·have hbo:(ycj kind 2 cs).1=(yeg (ycm cs)).1:=by unfold ycj;rw[if_pos rfl]
    have HBO:=Lib.hid hbo
    have hnn:=HF.out.nums
    generalize ycm cs=N at *
    obtain⟨kr,hkr⟩:=(rruns_ev N hnn.1 hnn.2).ex
    obtain⟨A7,c7,rfl,hc7,hC7⟩:=Kd.R_reads H7.out
    generalize yeg N=r at *
    obtain⟨r1,r2⟩:=r
    have HKR:=Lib.hid hkr;have HC7:=Lib.hid hC7
    clear hkr hbo hnn hC7
    go_wp2_with (go_at_call 96;refine(yb4.calls kr A7 c7 N r1 r2 _ HC7.out hc7 HKR.out).mono ?_;rintro e w9 ⟨v9',rfl,hR9,hb9⟩)
    go_ret
    exact⟨_,rfl,by rw[HBO.out];exact Kd.R_lower hR9 HB.out.size,yad HB.out HB.out.size hb9⟩
   ·have hbo:(ycj kind 3 cs).1=(ye9 (ycm cs)).1:=by unfold ycj;rw[if_neg (by decide),if_pos rfl]
    have HBO:=Lib.hid hbo
    have hnn:=HF.out.nums
    generalize ycm cs=N at *
    obtain⟨kr,hkr⟩:=(rpk_ev N hnn.1 hnn.2).ex
    obtain⟨A7,c7,rfl,hc7,hC7⟩:=Kd.R_reads H7.out
    generalize ye9 N=r at *
    obtain⟨r1,r2⟩:=r
    have HKR:=Lib.hid hkr;have HC7:=Lib.hid hC7
    clear hkr hbo hnn hC7
    go_wp2_with (go_at_call 97;refine(ybo.calls kr A7 c7 N r1 r2 _ HC7.out hc7 HKR.out).mono ?_;rintro e w9 ⟨v9',rfl,hR9,hb9⟩)
    go_ret
    exact⟨_,rfl,by rw[HBO.out];exact Kd.R_lower hR9 HB.out.size,yad HB.out HB.out.size hb9⟩
   ·have hbo:(ycj kind 4 cs).1=(encS (ybp cs)).1:=by unfold ycj;rw[if_neg (by decide),if_neg (by decide),if_pos rfl]
    have HBO:=Lib.hid hbo
    have htt:=HF.out.texts
    obtain⟨A8,c8,hv8,hc8,hC8⟩:=ykv.reads ⟨vs8,H8.out.1,H8.out.2⟩ HB.out
    subst hv8
    generalize ybp cs=T at *
    obtain⟨kr,hkr⟩:=(renc_law T).ex
    generalize encS T=r at *
    obtain⟨r1,r2⟩:=r
    have HKR:=Lib.hid hkr;have HC8:=Lib.hid hC8
    clear hkr hbo htt hC8
    go_wp2_with (go_at_call 98;refine(ya7.calls kr A8 c8 T r1 r2 _ HC8.out hc8 HKR.out).mono ?_;rintro e w9 ⟨v9',rfl,hR9,hb9⟩)
    go_ret
    exact⟨_,rfl,by rw[HBO.out];exact Kd.R_lower hR9 HB.out.size,yad HB.out HB.out.size hb9⟩
   ·have hbo:(ycj kind 5 cs).1=(yei (ybp cs)).1:=by unfold ycj;rw[if_neg (by decide),if_neg (by decide),if_neg (by decide),if_pos rfl]
    have HBO:=Lib.hid hbo
    have htt:=yod HF.out h6
    obtain⟨A8,c8,hv8,hc8,hC8⟩:=ykv.reads ⟨vs8,H8.out.1,H8.out.2⟩ HB.out
    subst hv8
    generalize ybp cs=T at *
    obtain⟨kr,hkr⟩:=(rpre_ev T htt.1 htt.2).ex
    generalize yei T=r at *
    obtain⟨r1,r2⟩:=r
    have HKR:=Lib.hid hkr;have HC8:=Lib.hid hC8
    clear hkr hbo htt hC8
    go_wp2_with (go_at_call 99;refine(yaw.calls kr A8 c8 T r1 r2 _ HC8.out hc8 HKR.out).mono ?_;rintro e w9 ⟨v9',rfl,hR9,hb9⟩)
    go_ret
    exact⟨_,rfl,by rw[HBO.out];exact Kd.R_lower hR9 HB.out.size,yad HB.out HB.out.size hb9⟩
end Go.Proofs.YteeikgjjgfdjgaaGreat.PK
end
