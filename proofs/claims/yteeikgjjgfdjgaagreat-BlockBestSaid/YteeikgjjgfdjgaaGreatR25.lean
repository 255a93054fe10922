/-
  Parts of the proof: AKh, AKj, Cv.
-/
import Derived.Test.YteeikgjjgfdjgaaGreatR7
import Derived.Test.YteeikgjjgfdjgaaGreatR16
import Derived.Test.YteeikgjjgfdjgaaGreatR6
import Derived.Test.YteeikgjjgfdjgaaGreatR5
import Derived.Test.YteeikgjjgfdjgaaGreatR9
import Derived.Test.YteeikgjjgfdjgaaGreatR10
import Derived.Test.YteeikgjjgfdjgaaGreatR11
import Derived.Test.YteeikgjjgfdjgaaGreatR17
import Derived.Test.YteeikgjjgfdjgaaGreatR18
import Derived.Test.YteeikgjjgfdjgaaGreatR23
import Derived.Test.YteeikgjjgfdjgaaGreatR2
section
namespace Go.Proofs.YteeikgjjgfdjgaaGreat.PK
open Go.RowKit Go.Maps Go.Proofs.YteeikgjjgfdjgaaGreatW.PrintWords Go.Proofs.YteeikgjjgfdjgaaGreatW.PrintLast Go.Proofs.YteeikgjjgfdjgaaGreatW.PrintMore
set_option linter.unusedVariables false
set_option linter.unusedSimpArgs false
def Byt (w:World) (base:Nat) (og:Option Nat) (v:Value) (xs:List Int):Prop:=
 (og = none ∧ v = .slice none 0 0 ∧ xs = []) ∨
 ∃ g cap cells m,og = some g ∧ v = .slice (some ⟨g,0,none⟩) xs.length cap ∧ base ≤ g ∧ xs.length ≤ cap ∧ w.heap[g]? = some (Obj.cells cells 5 m) ∧ cells.size = cap ∧ (cap ≤ m.1 ∨ m.2 ≤ m.1) ∧ cap ≤ maxLen ∧ ∀ i (h:i < xs.length),cells[i]? = some (.int .u8 xs[i])
theorem Byt.of_own {w:World} {base n:Nat} {v:Value} {xs:List Int} (h:w.ownsRow base 5 1 v n (nums .u8 xs)):Byt w base v.ownBlock v xs:=by
 have hl:xs.length = n:=by have:=h.1;rw [nums_length] at this;omega
 rcases h.2 with ⟨rfl,h2⟩ | ⟨g,cap,cur,rfl,hg,hcur,r1,r2,r3,r4⟩
 ·exact .inl ⟨rfl,rfl,List.eq_nil_of_length_eq_zero (by omega)⟩
 ·refine .inr ⟨g,cap,cur,(0,0),rfl,by rw [hl],hg,by omega,hcur,by omega,.inr (Nat.le_refl _),r2,fun i hi=>?_⟩
  have:=h.cellAt (g:=g) i (by omega)
  rw [nums,List.getElem?_map,List.getElem?_eq_getElem hi] at this
  simpa [World.cell?,hcur] using this
theorem Byt.keep {w w':World} {base og v xs} (h:Byt w base og v xs) (hb:∀ g,og = some g → w'.heap[g]? = w.heap[g]?):Byt w' base og v xs:=by
 rcases h with h | ⟨g,cap,cells,m,h1,h2,h3,h4,h5,h6⟩
 ·exact .inl h
 ·exact .inr ⟨g,cap,cells,m,h1,h2,h3,h4,(hb g h1).trans h5,h6⟩
theorem Byt.lt {w:World} {base og v xs} (h:Byt w base og v xs):∀ g,og = some g → g < w.heap.size:=by
 rintro g rfl
 rcases h with h | ⟨g',cap,cells,m,h1,h2,h3,h4,h5,h6⟩
 ·exact absurd h.1 (by simp)
 ·injection h1 with h1;subst h1;exact lt_of_block h5
theorem Byt.base_le {w:World} {base og v xs} (h:Byt w base og v xs):∀ g,og = some g → base ≤ g:=by
 rintro g rfl
 rcases h with h | ⟨g',cap,cells,m,h1,h2,h3,h4,h5,h6⟩
 ·exact absurd h.1 (by simp)
 ·injection h1 with h1;subst h1;exact h3
theorem Byt.typed {w:World} {base og v xs} (h:Byt w base og v xs):∀ g,og = some g → ∃ cells m,w.heap[g]? = some (Obj.cells cells 5 m):=by
 rintro g rfl
 rcases h with h | ⟨g',cap,cells,m,h1,h2,h3,h4,h5,h6⟩
 ·exact absurd h.1 (by simp)
 ·injection h1 with h1;subst h1;exact ⟨_,_,h5⟩
theorem Byt.lower {w:World} {base base' og v xs} (h:Byt w base og v xs) (hb:base' ≤ base):Byt w base' og v xs:=by
 rcases h with h | ⟨g,cap,cells,m,h1,h2,h3,h4⟩
 ·exact .inl h
 ·exact .inr ⟨g,cap,cells,m,h1,h2,by omega,h4⟩
theorem Byt.reads {w:World} {base og v xs} (h:Byt w base og v xs):∃ A c,v = .slice A xs.length c ∧ xs.length ≤ c ∧ Kd.C (Kd.int .u8) w A xs.length xs:=by
 rcases h with ⟨_,rfl,rfl⟩ | ⟨g,cap,cells,m,h1,rfl,h3,h4,hh,h6,h7,hx,hcell⟩
 ·exact ⟨none,0,rfl,Nat.le_refl _,Kd.C_nil _ _⟩
 ·refine ⟨_,cap,rfl,h4,Kd.C_of_reads (d:=0) ⟨rfl,by unfold maxLen at hx;omega,fun _=>⟨_,rfl,fun j hj=>?_⟩⟩⟩
  rw [add_plain]
  simp only [World.cell?,hh]
  rw [hcell j hj,List.getD_eq_getElem?_getD,List.getElem?_eq_getElem hj]
  simp
def EntB (w:World) (base:Nat) (v:Value) (es:List (List Int)):Prop:=
 ∃ (vs:List Value) (ogs:List (Option Nat)),w.ownsRow base 25 1 v es.length vs ∧ ogs.length = es.length ∧ (∀ (i j:Nat) (g:Nat),i < j → ogs[i]? = some (some g) → ogs[j]? ≠ some (some g)) ∧
  ∀ i (h:i < es.length),∃ u og,vs[i]? = some u ∧ ogs[i]? = some og ∧ Byt w base og u es[i]
theorem EntB.keep {w w':World} {base:Nat} {v:Value} {es:List (List Int)} (h:EntB w base v es) (hb:∀ k,base ≤ k → k < w.heap.size → w'.heap[k]? = w.heap[k]?):EntB w' base v es:=by
 obtain ⟨vs,ogs,h1,h2,h4,h5⟩:=h
 refine ⟨vs,ogs,own_move h1 (fun k hk=>hb k (own_base h1 k hk) (own_lt h1 k hk)),h2,h4,fun i h=>?_⟩
 obtain ⟨u,og,hu,hog,hB⟩:=h5 i h
 exact ⟨u,og,hu,hog,hB.keep (fun g hg=>hb g (hB.base_le g hg) (hB.lt g hg))⟩
theorem EntB.below {w w':World} {base:Nat} {v:Value} {es:List (List Int)} (h:EntB w base v es) (hb:Below w.heap.size w w'):EntB w' base v es:=h.keep (fun k _ hk=>hb.block k hk)
theorem EntB.lower {w:World} {base base':Nat} {v:Value} {es:List (List Int)} (h:EntB w base v es) (hb:base' ≤ base):EntB w base' v es:=by
 obtain ⟨vs,ogs,h1,h2,h4,h5⟩:=h
 refine ⟨vs,ogs,own_weaken h1 hb,h2,h4,fun i h=>?_⟩
 obtain ⟨u,og,hu,hog,hB⟩:=h5 i h
 exact ⟨u,og,hu,hog,hB.lower hb⟩
theorem EntB.nil (w:World) (base:Nat):EntB w base (.slice none 0 0) []:=⟨[],[],own_nil _ _ _ _,rfl,fun i j g _ h=>by simp at h,fun i h=>absurd h (by simp)⟩
theorem EntB.reads {w:World} {base:Nat} {v:Value} {es:List (List Int)} (hE:EntB w base v es):∃ A c,v = .slice A es.length c ∧ es.length ≤ c ∧ Kd.C (Kd.slice 5 (Kd.int .u8)) w A es.length es:=by
 obtain ⟨vs,gs,h1,h2,h4,h6⟩:=hE
 obtain ⟨A,c,rfl,hc,hcells⟩:=owned_cells h1
 have hn:es.length ≤ 9223372036854775807:=by
  rcases h1.2 with ⟨_,h⟩ | ⟨g',cap',cur,he,_,_,h3,h5,_⟩
  ·omega
  ·simp only [maxLen] at h5
   omega
 refine ⟨A,c,rfl,hc,rfl,hn,fun hp=>?_⟩
 obtain ⟨g,_,_,rfl,hcl⟩:=hcells hp
 refine ⟨_,rfl,fun j p hj=>?_⟩
 obtain ⟨hjl,rfl⟩:=List.getElem?_eq_some_iff.1 hj
 obtain ⟨u,og,hu,_,hM⟩:=h6 j hjl
 obtain ⟨A',c',rfl,hc',hC'⟩:=hM.reads
 refine ⟨[.slice A' es[j].length c'],rfl,⟨A',c',rfl,hc',hC'⟩,fun i x hx=>?_⟩
 cases i with
 | zero =>
  simp at hx
  subst hx
  have:=hcl j hjl
  rw [hu] at this
  rw [add_plain]
  simpa [Kd.slice] using this
 | succ i=>simp at hx
theorem EntB.put {w0 w:World} {base g n c i:Nat} {u:Value} {og:Option Nat} {x:List Int} {es:List (List Int)} (hE:EntB w0 base (.slice (some ⟨g,0,none⟩) n c) es) (hb:Below w0.heap.size w0 w) (hu:Byt w w0.heap.size og u x) (hi:i < es.length) (hbase:base ≤ w0.heap.size) :
  EntB (w.setCell ⟨g,i,none⟩ u) base (.slice (some ⟨g,0,none⟩) n c) (es.set i x) ∧ w.grownBy (w.setCell ⟨g,i,none⟩ u) (some g):=by
 have hE1:=hE.below hb
 obtain ⟨vs,ogs,h1,h2,h4,h6⟩:=hE
 have h1w:=own_move h1 (fun k hk=>hb.block k (own_lt h1 k hk))
 have hn:n = es.length:=by
  rcases h1.2 with ⟨h,_⟩ | ⟨g',cap',cur,h,_⟩
  ·cases h
  ·injection h
 obtain ⟨cells,hcells⟩:=own_typed h1w g rfl
 obtain ⟨hst,hgr⟩:=(hn ▸ h1w).stored i u
 refine ⟨⟨vs.set i u,ogs.set i og,?_,by simpa using h2,fun a b g' hab ha hb'=>?_,fun j h=>?_⟩,hgr⟩
 ·rw [List.length_set,hn];exact hst
 ·rw [List.getElem?_set] at ha hb'
  have hold:∀ (j g:Nat),ogs[j]? = some (some g) → g < w0.heap.size:=by
   intro j g hj
   obtain ⟨hjl,_⟩:=List.getElem?_eq_some_iff.1 hj
   obtain ⟨u',og',_,hog',hB⟩:=h6 j (by omega)
   rw [hj] at hog'
   injection hog' with hog'
   exact hB.lt g hog'.symm
  have hnew:∀ g:Nat,og = some g → w0.heap.size ≤ g:=fun g hg=>hu.base_le g hg
  split at ha
  ·rename_i e1
   split at hb'
   ·omega
   ·split at ha
    ·injection ha with ha
     have:=hnew g' ha
     have:=hold b g' hb'
     omega
    ·cases ha
  ·split at hb'
   ·split at hb'
    ·injection hb' with hb'
     have:=hnew g' hb'
     have:=hold a g' ha
     omega
    ·cases hb'
   ·exact h4 a b g' hab ha hb'
 ·rw [List.length_set] at h
  have hkeep:∀ og' u' x' b',Byt w b' og' u' x' → Byt (w.setCell ⟨g,i,none⟩ u) b' og' u' x':=fun og' u' x' b' hM=>hM.keep (fun g' hg'=>hgr.block g' (hM.lt g' hg') (fun e=>by
   have e:g' = g:=by injection e
   subst e
   obtain ⟨c',m',hc'⟩:=hM.typed g' hg'
   rw [hcells] at hc'
   injection hc' with hc'
   injection hc' with _ hc' _
   exact absurd hc' (by decide)))
  by_cases hij:i = j
  ·subst hij
   have hvl:i < vs.length:=by have:=h1.1;omega
   refine ⟨u,og,?_,?_,?_⟩
   ·rw [List.getElem?_set_self hvl]
   ·rw [List.getElem?_set_self (by omega)]
   ·rw [List.getElem_set_self]
    exact (hkeep _ _ _ _ hu).lower hbase
  ·obtain ⟨u',og',hu',hog',hB⟩:=h6 j h
   refine ⟨u',og',by rw [List.getElem?_set_ne hij];exact hu',by rw [List.getElem?_set_ne hij];exact hog',?_⟩
   rw [List.getElem_set_ne hij]
   exact hkeep _ _ _ _ (hB.keep (fun g' hg'=>hb.block g' (hB.lt g' hg')))
theorem EntB.grown {w w1:World} {base g:Nat} {v:Value} {es:List (List Int)} (hE:EntB w base v es) (hg:w.grownBy w1 (some g)) {cells:Array Value} {t:Nat} {m:Nat × Nat} (hc:w.heap[g]? = some (Obj.cells cells t m)) (h55:t ≠ 25) (h5:t ≠ 5):EntB w1 base v es:=by
 obtain ⟨vs,gs,h1,h2,h4,h6⟩:=hE
 refine ⟨vs,gs,own_move h1 (fun k hk=>?_),h2,h4,fun i h=>?_⟩
 ·refine hg.block k (own_lt h1 k hk) (fun e=>?_)
  have e:k = g:=by injection e
  subst e
  obtain ⟨cells',hc'⟩:=own_typed h1 k hk
  rw [hc] at hc'
  injection hc' with hc'
  injection hc' with _ hc' _
  exact h55 hc'
 ·obtain ⟨u',og',hu',hog',hM'⟩:=h6 i h
  refine ⟨u',og',hu',hog',hM'.keep (fun g' hg'=>hg.block _ (hM'.lt g' hg') (fun e=>?_))⟩
  have e:g' = g:=by injection e
  subst e
  obtain ⟨cells',m',h7⟩:=hM'.typed g' hg'
  rw [hc] at h7
  injection h7 with h7
  injection h7 with _ h7 _
  exact h5 h7
def Shows (w:World) (vs:List Value) (es:List (List Int)):Prop:=
 vs.length = es.length ∧ ∀ j (h:j < es.length),∃ A c,vs[j]? = some (.slice A es[j].length c) ∧ es[j].length ≤ c ∧ Kd.C (Kd.int .u8) w A es[j].length es[j]
theorem Shows.nil (w:World):Shows w [] []:=⟨rfl,fun j h=>absurd h (by simp)⟩
theorem Shows.snoc {w:World} {vs:List Value} {es:List (List Int)} {A:Option Addr} {c:Nat} {x:List Int} (h:Shows w vs es) (hc:x.length ≤ c) (hC:Kd.C (Kd.int .u8) w A x.length x):Shows w (vs ++ [.slice A x.length c]) (es ++ [x]):=by
 refine ⟨by simp [h.1],fun j hj=>?_⟩
 rcases Nat.lt_or_ge j es.length with h1 | h1
 ·obtain ⟨A',c',h2,h3⟩:=h.2 j h1
  refine ⟨A',c',?_,?_⟩
  ·rw [List.getElem?_append_left (by have:=h.1;omega),List.getElem_append_left h1];exact h2
  ·rw [List.getElem_append_left h1];exact h3
 ·have:j = es.length:=by simp at hj;omega
  subst this
  refine ⟨A,c,?_,?_⟩
  ·rw [List.getElem?_append_right (by rw [h.1];exact Nat.le_refl _),List.getElem_append_right (Nat.le_refl _)];simp [h.1]
  ·simp only [List.getElem_append_right (Nat.le_refl _),Nat.sub_self,List.getElem_cons_zero]
   exact ⟨hc,hC⟩
theorem Shows.reads {w wq:World} {base:Nat} {v:Value} {vs:List Value} {es:List (List Int)} (h:Shows w vs es) (hb:Below w.heap.size w wq) (h1:wq.ownsRow base 25 1 v es.length vs):∃ A c,v = .slice A es.length c ∧ es.length ≤ c ∧ Kd.C (Kd.slice 5 (Kd.int .u8)) wq A es.length es:=by
 obtain ⟨A,c,rfl,hc,hcells⟩:=owned_cells h1
 have hn:es.length ≤ 9223372036854775807:=by
  rcases h1.2 with ⟨_,h⟩ | ⟨g',cap',cur,he,_,_,h3,h5,_⟩
  ·omega
  ·simp only [maxLen] at h5
   omega
 refine ⟨A,c,rfl,hc,rfl,hn,fun hp=>?_⟩
 obtain ⟨g,_,_,rfl,hcl⟩:=hcells hp
 refine ⟨_,rfl,fun j p hj=>?_⟩
 obtain ⟨hjl,rfl⟩:=List.getElem?_eq_some_iff.1 hj
 obtain ⟨A',c',hu,hc',hC'⟩:=h.2 j hjl
 refine ⟨[.slice A' es[j].length c'],rfl,⟨A',c',rfl,hc',Kd.C_below hC' hb⟩,fun i x hx=>?_⟩
 cases i with
 | zero =>
  simp at hx
  subst hx
  have:=hcl j hjl
  rw [hu] at this
  rw [add_plain]
  simpa [Kd.slice] using this
 | succ i=>simp at hx
end Go.Proofs.YteeikgjjgfdjgaaGreat.PK
end
section
namespace Go.Proofs.YteeikgjjgfdjgaaGreat.PK
open Go.RowKit Go.Proofs.YteeikgjjgfdjgaaGreatW.PrintWords Go.Proofs.YteeikgjjgfdjgaaGreatW.PrintLast Go.Proofs.YteeikgjjgfdjgaaGreatW.PrintMore
set_option linter.unusedVariables false
set_option linter.unusedSimpArgs false
theorem radd_came {w0 W:World} {v:Value} {x ys:List Int} {A:Option Addr} {c:Nat} (hR:Kd.R (Kd.int .u8) 5 W w0.heap.size (fun _=>True) v x) (hb:Below w0.heap.size w0 W) (hC:Kd.C (Kd.int .u8) w0 A ys.length ys) (hc:ys.length ≤ c) (hl:x.length + ys.length ≤ 140737488355328) :
  Calls Tryz.prog 57 #[v,.slice A ys.length c] W fun e w'=>∃ v',e = .returned v' ∧ Kd.R (Kd.int .u8) 5 w' w0.heap.size (fun _=>True) v' (x ++ ys) ∧ Below w0.heap.size w0 w' ∧ Kept W w' (fun k=>some k = v.ownBlock):=by
 obtain ⟨k,hk⟩:=(add_ev x ys hl).ex
 refine (stoaref12_add.calls k (fun k=>some k = v.ownBlock) v x A c ys _ w0 W hb (Kd.R_tight rfl hR) (Kd.C_kept_came (Kd.heap_int .u8) hC hb (fun k hk=>Kd.R_base hR k hk.symm)) hc hk).mono ?_
 rintro e w' ⟨v',rfl,h1,h2,h3⟩
 exact ⟨v',rfl,Kd.R_mono h1 (fun _ _=>trivial),h2,h3⟩
theorem radd_own {w0 W:World} {N:Nat} {v u:Value} {x ys:List Int} (hR:Kd.R (Kd.int .u8) 5 W w0.heap.size (fun _=>True) v x) (hb:Below w0.heap.size w0 W) (hv:∀ k,v.ownBlock = some k → k < N) (hu:Kd.R (Kd.int .u8) 5 W N (fun _=>True) u ys) (hl:x.length + ys.length ≤ 140737488355328) :
  Calls Tryz.prog 57 #[v,u] W fun e w'=>∃ v',e = .returned v' ∧ Kd.R (Kd.int .u8) 5 w' w0.heap.size (fun _=>True) v' (x ++ ys) ∧ Below w0.heap.size w0 w' ∧ Kept W w' (fun k=>some k = v.ownBlock):=by
 obtain ⟨k,hk⟩:=(add_ev x ys hl).ex
 obtain ⟨A,c,rfl,hc,_⟩:=Kd.R_reads hu
 refine (stoaref12_add.calls k (fun k=>some k = v.ownBlock) v x A c ys _ w0 W hb (Kd.R_tight rfl hR) (Kd.C_kept_own (Kd.R_bound hu) (fun k hk he=>by have h1:=hk.2.1;have h2:=hv k he.symm;omega)) hc hk).mono ?_
 rintro e w' ⟨v',rfl,h1,h2,h3⟩
 exact ⟨v',rfl,Kd.R_mono h1 (fun _ _=>trivial),h2,h3⟩
theorem radd_cameL {w0 W:World} {v:Value} {x ys:List Int} {A:Option Addr} {c n:Nat} (hn:n = ys.length) (hR:Kd.R (Kd.int .u8) 5 W w0.heap.size (fun _=>True) v x) (hb:Below w0.heap.size w0 W) (hC:Kd.C (Kd.int .u8) w0 A n ys) (hc:n ≤ c) (hl:x.length + ys.length ≤ 140737488355328) :
  Calls Tryz.prog 57 #[v,.slice A n c] W fun e w'=>∃ v',e = .returned v' ∧ Kd.R (Kd.int .u8) 5 w' w0.heap.size (fun _=>True) v' (x ++ ys) ∧ Below w0.heap.size w0 w' ∧ Kept W w' (fun k=>some k = v.ownBlock):=by
 subst hn
 exact radd_came hR hb hC hc hl
theorem one_slice (A:Option Addr) (n c:Nat):∀ u ∈ [Value.slice A n c],u.oneCell' = true:=by
 intro u hu
 obtain rfl:=List.mem_singleton.1 hu
 rfl
theorem R_other {α:Type} {d:Kd α} {e base base':Nat} {W W2:World} {u v:Value} {xs:List α} {ys:List Int} (h:Kd.R d e W base (fun _=>True) u xs) (hv:Kd.R (Kd.int .u8) 5 W base' (fun _=>True) v ys) (hE:d.E = []) (ht:e ≠ 5) (hk:Kept W W2 (fun k=>some k = v.ownBlock)):Kd.R d e W2 base (fun _=>True) u xs:=by
 refine Kd.R_mono (Kd.R_step (Kd.R_bound h) (fun k hk' hl=>hk.2 k hl (fun he=>?_))) (fun _ _=>trivial)
 obtain ⟨_,_,_,q,hq,cells,hc⟩:=hk'
 obtain ⟨c2,h2⟩:=Kd.R_typed hv k he.symm
 rw [hc] at h2
 injection h2 with h2
 injection h2 with _ h2 _
 rw [hE,List.mem_singleton] at hq
 exact ht (hq.symm.trans h2)
def RShows (w0:World) (v:Value) (W:World) (base:Nat) (es:List (List Int)):Prop:=∃ vs:List Value,Shows w0 vs es ∧ Kd.R (Kd.raw 1) 25 W base (fun _=>True) v (vs.map fun u=>[u])
theorem RShows.reads {w0 W:World} {v:Value} {base:Nat} {es:List (List Int)} (h:RShows w0 v W base es) (hb:Below w0.heap.size w0 W):∃ A c,v = .slice A es.length c ∧ es.length ≤ c ∧ Kd.C (Kd.slice 5 (Kd.int .u8)) W A es.length es:=by
 obtain ⟨vs,hs,hR⟩:=h
 obtain ⟨hok,inner,ho,hr⟩:=hR
 have hin:inner = vs:=by
  apply List.ext_getElem (by have:=hr.1;rw [List.length_map,show (Kd.raw 1).sz = 1 from rfl,Nat.mul_one] at this;exact this)
  intro j h1 h2
  have h3:=(hr.2 j [vs[j]] (by rw [List.getElem?_map,List.getElem?_eq_getElem h2];rfl)).1
  have h4:(inner.drop (j * 1)).take 1 = [inner[j]]:=by rw [Nat.mul_one,List.drop_eq_getElem_cons h1];rfl
  have h5:[inner[j]] = [vs[j]]:=by rw [← h4];exact h3
  injection h5
 rw [List.length_map,hs.1,hin] at ho
 exact hs.reads hb ho
theorem empty_R {α:Type} (d:Kd α) (W:World) (e base:Nat) (hb:base ≤ W.heap.size):Kd.R d e (W.alloc (.cells #[] e)) base (fun _=>True) (.slice (some ⟨W.heap.size,0,none⟩) 0 0) []:=
 ⟨fun _ _=>trivial,[],World.ownsRow_lit W #[] 0 hb (by decide) (by simp),Reps.none _ _⟩
theorem bodyS_at {kind:Int} {cs:List Cel} {i:Nat} (hi:i < cs.length) (h0:¬ cs[i].f0 = true):numsC (cs.take (i + 1)) = numsC (cs.take i) ++ [cs[i].f1] ∧ textsC (cs.take (i + 1)) = textsC (cs.take i) ++ [cs[i].f2] ∧ plainS kind (cs.take (i + 1)) = plainS kind (cs.take i) ++ plainC kind cs[i]:=by
 have hs:=there_snoc cs i hi
 unfold numsC textsC plainS
 rw [hs,if_neg h0]
 simp
theorem bodyS_null {kind:Int} {cs:List Cel} {i:Nat} (hi:i < cs.length) (h0:cs[i].f0 = true):numsC (cs.take (i + 1)) = numsC (cs.take i) ∧ textsC (cs.take (i + 1)) = textsC (cs.take i) ∧ plainS kind (cs.take (i + 1)) = plainS kind (cs.take i):=by
 have hs:=there_snoc cs i hi
 unfold numsC textsC plainS
 rw [hs,if_pos h0]
 exact ⟨rfl,rfl,rfl⟩
def BytesMade (w:World) (l:List Int) (e:Ending) (w':World):Prop:=∃ v,e = .returned v ∧ Kd.R (Kd.int .u8) 5 w' w.heap.size (fun _=>True) v l ∧ Below w.heap.size w w'
theorem rtexts_short {kind:Int} {cs:List Cel} (h:Fine kind cs) (h6:6 < kind):(textsC cs).length ≤ 4096 ∧ ∀ s ∈ textsC cs,s.length ≤ 200:=by
 refine ⟨h.texts.1,fun s hs=>?_⟩
 obtain ⟨c,hc,rfl⟩:=List.mem_map.1 hs
 have hp:=h.plainly c hc
 unfold Plainly at hp
 rw [if_neg (by omega)] at hp
 exact hp.2
set_option maxRecDepth 100000 in
set_option maxHeartbeats 2000000 in
theorem rbody_any (kind codec:Int) (A:Option Addr) (c:Nat) (cs:List Cel) (w:World) (hf:Fine kind cs) (hfit:fitsC kind codec) (h:Kd.C k53 w A cs.length cs) (hc:cs.length ≤ c) :
  Calls Tryz.prog 60 #[.int .i64 kind,.int .i64 codec,.slice A cs.length c] w (BytesMade w (bodyS kind codec cs).1):=by
 have hcl:=hf.len
 have HC:=Lib.hid h;have HF:=Lib.hid hf;have HFIT:=Lib.hid hfit
 clear h hf hfit
 go_enter Tryz.func60,Tryz.ntmps60
 go_upto_region 2 with (fail)
 have e1:=empty_R (Kd.int .i64) w 2 w.heap.size (Nat.le_refl _)
 have e2:=empty_R (Kd.raw 1) (w.alloc (.cells #[] 2)) 25 w.heap.size (by simp)
 have e3:=empty_R (Kd.int .u8) ((w.alloc (.cells #[] 2)).alloc (.cells #[] 25)) 5 w.heap.size (by simp;omega)
 rw [show (w.alloc (.cells #[] 2)).heap.size = w.heap.size + 1 by simp] at e2
 rw [show ((w.alloc (.cells #[] 2)).alloc (.cells #[] 25)).heap.size = w.heap.size + 1 + 1 by simp] at e3
 have hb0:=Lib.hid (below_alloc (below_alloc (below_alloc (Below.refl w.heap.size w) (.cells #[] 2)) (.cells #[] 25)) (.cells #[] 5))
 have E7:=Lib.hid (Kd.R_alloc (Kd.R_alloc e1 (.cells #[] 25)) (.cells #[] 5))
 have E8:=Lib.hid (Kd.R_alloc e2 (.cells #[] 5))
 have E9:=Lib.hid e3
 clear e1 e2 e3
 generalize ((w.alloc (.cells #[] 2)).alloc (.cells #[] 25)).alloc (.cells #[] 5) = w3 at *
 go_wp2
 go_loopw [7,8,9,10] (fun v7 v8 v9 vi wq=>∃ (i:Nat) (vs8:List Value),i ≤ cs.length ∧ vi = .int .i64 i ∧ RowKit.Hid (Kd.R (Kd.int .i64) 2 wq w.heap.size (fun _=>True) v7 (numsC (cs.take i))) ∧ RowKit.Hid (Shows w vs8 (textsC (cs.take i)) ∧ Kd.R (Kd.raw 1) 25 wq w.heap.size (fun _=>True) v8 (vs8.map fun u=>[u])) ∧ RowKit.Hid (Kd.R (Kd.int .u8) 5 wq w.heap.size (fun _=>True) v9 (plainS kind (cs.take i))) ∧ RowKit.Hid (Below w.heap.size w wq)) (fun _ _ _ vi _=>cs.length - (intOf vi).toNat)
 case atStart=>exact ⟨0,[],Nat.zero_le _,rfl,Lib.hid (by rw [List.take_zero];exact E7.out),Lib.hid (by rw [List.take_zero];exact ⟨Shows.nil _,E8.out⟩),Lib.hid (by rw [List.take_zero];exact E9.out),hb0⟩
 case round =>
  obtain ⟨i,vs8,hi9,rfl,H7,H8,H9,HB⟩:=hrel
  clear E7 E8 E9 hb0
  by_cases hlt:i < cs.length
  ·obtain ⟨ad,A2,c2,rfl,hx0,hx1,hx2,hl2,hC2⟩:=at_T53 HC.out (i:Int) (by omega) (by omega)
   rw [rdc_at hlt,Int.toNat_natCast] at *
   have h1w:=hx1
   have h2w:=hx2
   replace hx0:=(HB.out.cell (World.block_lt_of_cell? w _ hx0)).trans hx0
   replace hx1:=(HB.out.cell (World.block_lt_of_cell? w _ hx1)).trans hx1
   replace hx2:=(HB.out.cell (World.block_lt_of_cell? w _ hx2)).trans hx2
   by_cases h0:cs[i].f0 = true
   ·obtain ⟨m1,m2,m3⟩:=bodyS_null (kind:=kind) hlt h0
    rw [h0] at hx0
    rw [← m1] at H7
    rw [← m2] at H8
    rw [← m3] at H9
    clear m1 m2 m3 h0 hC2 h1w h2w
    obtain ⟨A7,c7,rfl⟩:=Kd.R_slice H7.out
    obtain ⟨A8,c8,rfl⟩:=Kd.R_slice H8.out.2
    obtain ⟨A9,c9,rfl⟩:=Kd.R_slice H9.out
    go_wp2
    go_roundw
    case rel=>exact ⟨i + 1,vs8,hlt,by go_num,H7,H8,H9,HB⟩
    case measure=>simp [intOf];omega
   ·obtain ⟨m1,m2,m3⟩:=bodyS_at (kind:=kind) hlt h0
    have hpl:=HF.out.plainly cs[i] (there_mem.2 ⟨List.getElem_mem hlt,by simpa using h0⟩)
    have hI:=(HF.out.ok cs[i] (List.getElem_mem hlt)).1
    have hpcl:=plainC_length hpl
    have hsub:∀ c ∈ there (cs.take i),Plainly kind c:=fun c hm=>HF.out.plainly c (there_mem.2 ⟨List.mem_of_mem_take (there_mem.1 hm).1,(there_mem.1 hm).2⟩)
    have htl:(there (cs.take i)).length ≤ 4096:=Nat.le_trans (List.length_filter_le _ _) (by rw [List.length_take];omega)
    have hpsl:(plainS kind (cs.take i)).length ≤ 210 * (there (cs.take i)).length:=plainS_length hsub
    have hnl:(numsC (cs.take i)).length ≤ 4096:=by unfold numsC;rw [List.length_map];exact htl
    have hxl:(textsC (cs.take i)).length ≤ 4096:=by unfold textsC;rw [List.length_map];exact htl
    have hvl:(vs8.map fun u=>[u]).length ≤ 4096:=by rw [List.length_map,H8.out.1.1];exact hxl
    have h0f:cs[i].f0 = false:=by simpa using h0
    rw [h0f] at hx0
    obtain ⟨hsh,hR8⟩:=H8.out
    have hsh1:=hsh.snoc hl2 hC2
    rw [← m2] at hsh1
    have HSH:=Lib.hid hsh1;have HM1:=Lib.hid m1;have HM3:=Lib.hid m3;have HR8:=Lib.hid hR8
    have hplb:(plainS kind (cs.take i)).length ≤ 1000000:=by omega
    have HPB:=Lib.hid hplb;have HNL:=Lib.hid hnl;have HVL:=Lib.hid hvl;have HC2:=Lib.hid hC2
    generalize numsC (cs.take i) = N at *
    generalize plainS kind (cs.take i) = P at *
    generalize textsC (cs.take i) = T at *
    obtain ⟨x,hx⟩:∃ x,x = cs[i]:=⟨_,rfl⟩
    rw [← hx] at hx1 hx2 hl2 HC2 HSH HM1 HM3 hpcl hI h1w h2w
    have HLT:=Lib.hid hlt
    obtain ⟨fx0,fx1,fx2⟩:=x
    simp only at hx1 hx2 hl2 HC2 HSH HM1 hI h1w h2w
    obtain ⟨sl,hsl⟩:∃ sl,sl = fx2.length:=⟨_,rfl⟩
    have HSL:=Lib.hid hsl
    rw [← hsl] at hx2 h2w
    rw [← HSL.out] at hl2
    have HX1:RowKit.Hid (w.cell? _ = some (.int .i64 fx1)):=Lib.hid ((HB.out.cell (World.block_lt_of_cell? w _ h1w)).symm.trans hx1)
    have HX2:RowKit.Hid (w.cell? _ = some (.slice A2 sl c2)):=Lib.hid ((HB.out.cell (World.block_lt_of_cell? w _ h2w)).symm.trans hx2)
    clear h1w h2w
    clear H8 hsh hR8 hsh1 m1 m2 m3 hpl hsub htl hpsl hnl hxl hvl hplb h0 h0f hC2 hx hsl hlt
    by_cases hk6:kind ≤ 6
    ·have e2:plainC kind ⟨fx0,fx1,fx2⟩ = vput (foldN fx1):=by unfold plainC;rw [if_pos hk6]
     rw [e2] at HM3 hpcl
     have hfl:=rfold_law hI
     obtain ⟨kp,hkp⟩:=(rput_ev (foldN fx1) (foldN_lt hI)).ex
     have hys:P.length + (vput (foldN fx1)).length ≤ 140737488355328:=by have:=HPB.out;omega
     generalize vput (foldN fx1) = ys at *
     generalize ((foldN fx1:Nat):Int) = fo at *
     have HFL:=Lib.hid hfl;have HKP:=Lib.hid hkp;have HYS:=Lib.hid hys
     clear hfl hkp hys e2 hpcl hI
     go_upto_region 7 with (at_builtin;refine Kd.R_append (Kd.int .i64) (w0:=w) w.heap.size rfl (.tmp 34) (.tmp 40) 94 2 (.int .i64 0) 8 rfl Tryz.underlying94 info2 rfl (by decide) (by decide) _ N fx1 [.int .i64 fx1] (fun _=>True) (fun _=>False) rfl rfl rfl (fun _ hk=>hk.elim) (fun _ _=>trivial) H7.out HB.out HB.out.size (by have:=HNL.out;omega) ?_;intro v7 w7 hR7 hb7 hg7 hat7;have J7:=Lib.hid hR7;have J8:=Lib.hid (Kd.R_over' HR8.out (Kd.R_typed H7.out) (by decide) hg7);have J9:=Lib.hid (Kd.R_over' H9.out (Kd.R_typed H7.out) (by decide) hg7);have JB:=Lib.hid hb7;clear hR7 hb7 hg7 hat7)
     replace hx1:=(JB.out.cell (World.block_lt_of_cell? w _ HX1.out)).trans HX1.out
     replace hx2:=(JB.out.cell (World.block_lt_of_cell? w _ HX2.out)).trans HX2.out
     go_upto_region 8 with (at_builtin;refine Kd.R_append (Kd.raw 1) (w0:=w) w.heap.size rfl (.tmp 42) (.tmp 48) 46 25 (.slice none 0 0) 24 rfl Tryz.underlying46 info25 rfl (by decide) (by decide) _ (vs8.map fun u=>[u]) [.slice A2 sl c2] [.slice A2 sl c2] (fun _=>True) (fun _=>False) rfl rfl ⟨rfl,rfl,one_slice A2 sl c2⟩ (fun _ hk=>hk.elim) (fun _ _=>trivial) J8.out JB.out JB.out.size (by have:=HVL.out;omega) ?_;intro v8 w8 hR8 hb8 hg8 hat8;have L8:=Lib.hid hR8;have L7:=Lib.hid (Kd.R_over' J7.out (Kd.R_typed J8.out) (by decide) hg8);have L9:=Lib.hid (Kd.R_over' J9.out (Kd.R_typed J8.out) (by decide) hg8);have LB:=Lib.hid hb8;clear hR8 hb8 hg8 hat8)
     clear J7 J8 J9 JB H7 HR8 H9 HB
     replace hx1:=(LB.out.cell (World.block_lt_of_cell? w _ HX1.out)).trans HX1.out
     replace hx2:=(LB.out.cell (World.block_lt_of_cell? w _ HX2.out)).trans HX2.out
     go_wp2_with (first
      | (go_at_call 95;refine (stoaref05_Fold.calls _ _ _ HFL.out).mono ?_;rintro e w9 ⟨rfl,⟨m9,rfl⟩⟩)
      | (go_at_call 58;refine (stoaref02_Put.calls kp _ _ _ HKP.out).mono ?_;rintro e w10 ⟨v10,rfl,hR10,hb10⟩;have M7:=Lib.hid (Kd.R_below (Kd.R_drewN L7.out m9) hb10);have M8:=Lib.hid (Kd.R_below (Kd.R_drewN L8.out m9) hb10);have M9:=Lib.hid (Kd.R_below (Kd.R_drewN L9.out m9) hb10);have MB:=Lib.hid ((fun (hx:Below w.heap.size w (w8.drewN m9))=>below_then hx hx.size hb10) (pw_below_drewN LB.out _));have MV:=Lib.hid (Kd.R_lt (Kd.R_drewN L9.out m9));have MU:=Lib.hid hR10;clear hR10 hb10)
      | (go_at_call 57;refine (radd_own M9.out MB.out MV.out MU.out HYS.out).mono ?_;rintro e w11 ⟨v11,rfl,hR11,hb11,hk11⟩;have P7:=Lib.hid (R_other M7.out M9.out rfl (by decide) hk11);have P8:=Lib.hid (R_other M8.out M9.out rfl (by decide) hk11);have P9:=Lib.hid hR11;have PB:=Lib.hid hb11;clear hR11 hb11 hk11))
     go_roundw
     case rel=>exact ⟨i + 1,vs8 ++ [.slice A2 sl c2],HLT.out,by go_num,Lib.hid (by rw [HM1.out];exact P7.out),Lib.hid ⟨by have:=HSH.out;rw [HSL.out];exact this,by rw [List.map_append];exact P8.out⟩,Lib.hid (by rw [HM3.out];exact P9.out),PB⟩
     case measure=>have:=HLT.out;simp [intOf];omega
    ·have e2:plainC kind ⟨fx0,fx1,fx2⟩ = vput fx2.length ++ fx2:=by unfold plainC;rw [if_neg hk6]
     rw [e2] at HM3 hpcl
     have hsm:fx2.length < 18446744073709551616:=by rw [List.length_append] at hpcl;omega
     obtain ⟨kp,hkp⟩:=(rput_ev fx2.length hsm).ex
     have hwu:IntKind.u64.wrap ((sl:Nat):Int) = (sl:Int):=by rw [HSL.out];exact wraps_u64 _ (by omega) (by omega)
     have hvl:vput fx2.length = vput sl:=by rw [HSL.out]
     rw [← HSL.out] at hkp
     rw [hvl] at HM3 hpcl
     have hys:P.length + (vput sl).length ≤ 140737488355328:=by rw [List.length_append] at hpcl;have:=HPB.out;omega
     have hys2:(P ++ vput sl).length + fx2.length ≤ 140737488355328:=by rw [List.length_append] at hpcl ⊢;have:=HPB.out;omega
     clear hvl
     generalize vput sl = ys at *
     have HKP:=Lib.hid hkp;have HYS:=Lib.hid hys;have HYS2:=Lib.hid hys2
     have HC2':=Lib.hid HC2.out
     have HCX:RowKit.Hid (Kd.C (Kd.int .u8) w A2 sl fx2):=Lib.hid (by rw [HSL.out];exact HC2.out)
     clear hkp hys hys2 e2 hpcl hI hsm HC2 HC2'
     go_upto_region 7 with (at_builtin;refine Kd.R_append (Kd.int .i64) (w0:=w) w.heap.size rfl (.tmp 34) (.tmp 40) 94 2 (.int .i64 0) 8 rfl Tryz.underlying94 info2 rfl (by decide) (by decide) _ N fx1 [.int .i64 fx1] (fun _=>True) (fun _=>False) rfl rfl rfl (fun _ hk=>hk.elim) (fun _ _=>trivial) H7.out HB.out HB.out.size (by have:=HNL.out;omega) ?_;intro v7 w7 hR7 hb7 hg7 hat7;have J7:=Lib.hid hR7;have J8:=Lib.hid (Kd.R_over' HR8.out (Kd.R_typed H7.out) (by decide) hg7);have J9:=Lib.hid (Kd.R_over' H9.out (Kd.R_typed H7.out) (by decide) hg7);have JB:=Lib.hid hb7;clear hR7 hb7 hg7 hat7)
     replace hx1:=(JB.out.cell (World.block_lt_of_cell? w _ HX1.out)).trans HX1.out
     replace hx2:=(JB.out.cell (World.block_lt_of_cell? w _ HX2.out)).trans HX2.out
     go_upto_region 8 with (at_builtin;refine Kd.R_append (Kd.raw 1) (w0:=w) w.heap.size rfl (.tmp 42) (.tmp 48) 46 25 (.slice none 0 0) 24 rfl Tryz.underlying46 info25 rfl (by decide) (by decide) _ (vs8.map fun u=>[u]) [.slice A2 sl c2] [.slice A2 sl c2] (fun _=>True) (fun _=>False) rfl rfl ⟨rfl,rfl,one_slice A2 sl c2⟩ (fun _ hk=>hk.elim) (fun _ _=>trivial) J8.out JB.out JB.out.size (by have:=HVL.out;omega) ?_;intro v8 w8 hR8 hb8 hg8 hat8;have L8:=Lib.hid hR8;have L7:=Lib.hid (Kd.R_over' J7.out (Kd.R_typed J8.out) (by decide) hg8);have L9:=Lib.hid (Kd.R_over' J9.out (Kd.R_typed J8.out) (by decide) hg8);have LB:=Lib.hid hb8;clear hR8 hb8 hg8 hat8)
     clear J7 J8 J9 JB H7 HR8 H9 HB
     replace hx1:=(LB.out.cell (World.block_lt_of_cell? w _ HX1.out)).trans HX1.out
     replace hx2:=(LB.out.cell (World.block_lt_of_cell? w _ HX2.out)).trans HX2.out
     go_upto_region 11 with (first
      | (go_at_call 58;refine (stoaref02_Put.calls kp _ _ _ HKP.out).mono ?_;rintro e w10 ⟨v10,rfl,hR10,hb10⟩;have M7:=Lib.hid (Kd.R_below L7.out hb10);have M8:=Lib.hid (Kd.R_below L8.out hb10);have M9:=Lib.hid (Kd.R_below L9.out hb10);have MB:=Lib.hid (below_then LB.out LB.out.size hb10);have MV:=Lib.hid (Kd.R_lt L9.out);have MU:=Lib.hid hR10;clear hR10 hb10)
      | (go_at_call 57;refine (radd_own M9.out MB.out MV.out MU.out HYS.out).mono ?_;rintro e w11 ⟨v11,rfl,hR11,hb11,hk11⟩;have P7:=Lib.hid (R_other M7.out M9.out rfl (by decide) hk11);have P8:=Lib.hid (R_other M8.out M9.out rfl (by decide) hk11);have P9:=Lib.hid hR11;have PB:=Lib.hid hb11;clear hR11 hb11 hk11;replace hx2:=(PB.out.cell (World.block_lt_of_cell? w _ HX2.out)).trans HX2.out))
     go_wp2_with (first
      | (go_at_call 57;refine (radd_cameL HSL.out P9.out PB.out HCX.out hl2 HYS2.out).mono ?_;rintro e w12 ⟨v12,rfl,hR12,hb12,hk12⟩;have Q7:=Lib.hid (R_other P7.out P9.out rfl (by decide) hk12);have Q8:=Lib.hid (R_other P8.out P9.out rfl (by decide) hk12);have Q9:=Lib.hid hR12;have QB:=Lib.hid hb12;clear hR12 hb12 hk12))
     go_roundw
     case rel=>exact ⟨i + 1,vs8 ++ [.slice A2 sl c2],HLT.out,by go_num,Lib.hid (by rw [HM1.out];exact Q7.out),Lib.hid ⟨by have:=HSH.out;rw [HSL.out];exact this,by rw [List.map_append];exact Q8.out⟩,Lib.hid (by rw [HM3.out,← List.append_assoc];exact Q9.out),QB⟩
     case measure=>have:=HLT.out;simp [intOf];omega
  ·obtain rfl:i = cs.length:=by omega
   have hta:cs.take cs.length = cs:=List.take_length
   rw [hta] at H7 H8 H9
   clear hta
   rcases HFIT.out with rfl | ⟨_,rfl | rfl⟩ | ⟨h6,rfl | rfl⟩
   ·have hbo:(bodyS kind 1 cs).1 = plainS kind cs:=by unfold bodyS;rw [if_neg (by decide),if_neg (by decide),if_neg (by decide),if_neg (by decide)]
    have HBO:=Lib.hid hbo
    clear hbo
    obtain ⟨A9,c9,rfl⟩:=Kd.R_slice H9.out
    generalize plainS kind cs = P at *
    go_wp2
    go_ret
    exact ⟨_,rfl,by rw [HBO.out];exact H9.out,HB.out⟩
   ·have hbo:(bodyS kind 2 cs).1 = (encRuns (numsC cs)).1:=by unfold bodyS;rw [if_pos rfl]
    have HBO:=Lib.hid hbo
    have hnn:=HF.out.nums
    generalize numsC cs = N at *
    obtain ⟨kr,hkr⟩:=(rruns_ev N hnn.1 hnn.2).ex
    obtain ⟨A7,c7,rfl,hc7,hC7⟩:=Kd.R_reads H7.out
    generalize encRuns N = r at *
    obtain ⟨r1,r2⟩:=r
    have HKR:=Lib.hid hkr;have HC7:=Lib.hid hC7
    clear hkr hbo hnn hC7
    go_wp2_with (go_at_call 96;refine (stoaref08_Encode.calls kr A7 c7 N r1 r2 _ HC7.out hc7 HKR.out).mono ?_;rintro e w9 ⟨v9',rfl,hR9,hb9⟩)
    go_ret
    exact ⟨_,rfl,by rw [HBO.out];exact Kd.R_lower hR9 HB.out.size,below_then HB.out HB.out.size hb9⟩
   ·have hbo:(bodyS kind 3 cs).1 = (encPk (numsC cs)).1:=by unfold bodyS;rw [if_neg (by decide),if_pos rfl]
    have HBO:=Lib.hid hbo
    have hnn:=HF.out.nums
    generalize numsC cs = N at *
    obtain ⟨kr,hkr⟩:=(rpk_ev N hnn.1 hnn.2).ex
    obtain ⟨A7,c7,rfl,hc7,hC7⟩:=Kd.R_reads H7.out
    generalize encPk N = r at *
    obtain ⟨r1,r2⟩:=r
    have HKR:=Lib.hid hkr;have HC7:=Lib.hid hC7
    clear hkr hbo hnn hC7
    go_wp2_with (go_at_call 97;refine (stoaref09_Encode.calls kr A7 c7 N r1 r2 _ HC7.out hc7 HKR.out).mono ?_;rintro e w9 ⟨v9',rfl,hR9,hb9⟩)
    go_ret
    exact ⟨_,rfl,by rw [HBO.out];exact Kd.R_lower hR9 HB.out.size,below_then HB.out HB.out.size hb9⟩
   ·have hbo:(bodyS kind 4 cs).1 = (encS (textsC cs)).1:=by unfold bodyS;rw [if_neg (by decide),if_neg (by decide),if_pos rfl]
    have HBO:=Lib.hid hbo
    have htt:=HF.out.texts
    obtain ⟨A8,c8,hv8,hc8,hC8⟩:=RShows.reads ⟨vs8,H8.out.1,H8.out.2⟩ HB.out
    subst hv8
    generalize textsC cs = T at *
    obtain ⟨kr,hkr⟩:=(renc_law T).ex
    generalize encS T = r at *
    obtain ⟨r1,r2⟩:=r
    have HKR:=Lib.hid hkr;have HC8:=Lib.hid hC8
    clear hkr hbo htt hC8
    go_wp2_with (go_at_call 98;refine (stoaref10_Encode.calls kr A8 c8 T r1 r2 _ HC8.out hc8 HKR.out).mono ?_;rintro e w9 ⟨v9',rfl,hR9,hb9⟩)
    go_ret
    exact ⟨_,rfl,by rw [HBO.out];exact Kd.R_lower hR9 HB.out.size,below_then HB.out HB.out.size hb9⟩
   ·have hbo:(bodyS kind 5 cs).1 = (encPre (textsC cs)).1:=by unfold bodyS;rw [if_neg (by decide),if_neg (by decide),if_neg (by decide),if_pos rfl]
    have HBO:=Lib.hid hbo
    have htt:=rtexts_short HF.out h6
    obtain ⟨A8,c8,hv8,hc8,hC8⟩:=RShows.reads ⟨vs8,H8.out.1,H8.out.2⟩ HB.out
    subst hv8
    generalize textsC cs = T at *
    obtain ⟨kr,hkr⟩:=(rpre_ev T htt.1 htt.2).ex
    generalize encPre T = r at *
    obtain ⟨r1,r2⟩:=r
    have HKR:=Lib.hid hkr;have HC8:=Lib.hid hC8
    clear hkr hbo htt hC8
    go_wp2_with (go_at_call 99;refine (stoaref11_Encode.calls kr A8 c8 T r1 r2 _ HC8.out hc8 HKR.out).mono ?_;rintro e w9 ⟨v9',rfl,hR9,hb9⟩)
    go_ret
    exact ⟨_,rfl,by rw [HBO.out];exact Kd.R_lower hR9 HB.out.size,below_then HB.out HB.out.size hb9⟩
end Go.Proofs.YteeikgjjgfdjgaaGreat.PK
end
