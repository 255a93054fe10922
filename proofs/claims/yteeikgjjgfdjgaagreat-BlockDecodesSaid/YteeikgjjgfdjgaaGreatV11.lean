/-
  Parts of the proof: AKa, AKb, AKc, AKd, AKe, AKv.
-/
import Derived.Test.YteeikgjjgfdjgaaGreatV10
import Derived.Maps.OwnSet
import Derived.Sort.KeysCollected
import Derived.StringKeys
import Derived.Maps.RangeWalk
import Derived.WalkSpells
import Derived.WalkLawsBesides
import Derived.Lib.Hide
import Derived.OneCell
import Derived.Deep.RegionWith
import Derived.IntWalk
import Derived.Lib.EndianBits
import Derived.Laws.Bits64b
set_option maxHeartbeats 600000
set_option maxRecDepth 100000
section
namespace Go.Proofs.YteeikgjjgfdjgaaGreat.PK
open Go.RowKit YteeikgjjgfdjgaaGreatW.PrintWords
set_option linter.unusedVariables false
set_option linter.unusedSimpArgs false
theorem w64 {n:Int} (h0:-9223372036854775808≤n) (h1:n≤9223372036854775807):wrap64 n=n:=by unfold wrap64;omega
theorem w64s (i:Nat) (h:i<9223372036854775807):wrap64 ((i:Int)+1)=((i+1:Nat):Int):=by rw[w64 (by omega) (by omega)];omega
theorem up {α:Type} {g:Nat→Option α} (m:∀ k,LeO (g k) (g (k+1))) {k:Nat} {r:α} (h:g k=some r):∀ k',k≤k'→g k'=some r:=by
 intro k' hk
 induction hk with
 | refl=>exact h
 | step _ ih=>exact m _ _ ih
theorem ybj {xs:List Int} {i:Nat} (h:i<xs.length):rd xs (i:Int)=xs[i]:=by
 simp [rd,List.getD,h]
theorem ygi {xs:List (List Int)} {i:Nat} (h:i<xs.length):ydn xs (i:Int)=xs[i]:=by
 simp [ydn,List.getD,h]
theorem ybd {α:Type} (l:List α) (i:Nat) (h:i<l.length):l.take i++[l[i]]=l.take (i+1):=by
 rw[List.take_add_one,List.getElem?_eq_getElem h];rfl
theorem copy_l0 (l:List Int) (hl:l.length≤140737488355328):∀ n i,i+n=l.length→yay.l0 (n+1) l (l.take i) (i:Int)=some l:=by
 intro n
 induction n with
 | zero =>
  intro i h
  unfold yay.l0
  rw[if_neg (by omega),List.take_of_length_le (by omega)]
 | succ n ih =>
  intro i h
  unfold yay.l0
  rw[if_pos (by omega),if_pos (by omega),if_pos (by rw[List.length_take];omega),ybj (by omega),ybd l i (by omega),w64s i (by omega)]
  exact ih (i+1) (by omega)
theorem yo5 (l:List Int) (hl:l.length≤140737488355328) (k:Nat) (hk:l.length+1≤k):yay.f k l=some l:=
 up (g:=fun k=>yay.f k l) (fun k=>yay.mono l k) (k:=l.length+1) (copy_l0 l hl l.length 0 (by omega)) k hk
theorem drop_yes {α:Type} [DecidableEq α] (a b:List α) (i:Nat) (ha:i<a.length) (hb:i<b.length) (h:a[i]=b[i]):decide (a.drop i=b.drop i)=decide (a.drop (i+1)=b.drop (i+1)):=by
 have e1:a.drop i=a[i]::a.drop (i+1):=List.drop_eq_getElem_cons ha
 have e2:b.drop i=b[i]::b.drop (i+1):=List.drop_eq_getElem_cons hb
 refine decide_eq_decide.2 ⟨fun e=>?_,fun e=>by rw[e1,e2,h,e]⟩
 rw[e1,e2] at e
 exact(List.cons.inj e).2
theorem drop_no {α:Type} [DecidableEq α] (a b:List α) (i:Nat) (ha:i<a.length) (hb:i<b.length) (h:a[i]≠b[i]):decide (a.drop i=b.drop i)=false:=by
 have e1:a.drop i=a[i]::a.drop (i+1):=List.drop_eq_getElem_cons ha
 have e2:b.drop i=b[i]::b.drop (i+1):=List.drop_eq_getElem_cons hb
 refine decide_eq_false fun e=>?_
 rw[e1,e2] at e
 exact h (List.cons.inj e).1
theorem same_l0 (a b:List Int) (hab:a.length=b.length) (hl:a.length<9223372036854775807):∀ n i,i+n=a.length→ya3.l0 (n+1) a b (i:Int)=some (decide (a.drop i=b.drop i)):=by
 intro n
 induction n with
 | zero =>
  intro i h
  unfold ya3.l0
  rw[if_neg (by omega),List.drop_of_length_le (by omega),List.drop_of_length_le (by omega)]
  simp
 | succ n ih =>
  intro i h
  unfold ya3.l0
  rw[if_pos (by omega),if_pos (by omega),if_pos (by omega),ybj (by omega),ybj (by omega),w64s i (by omega),ih (i+1) (by omega)]
  by_cases h1:a[i]=b[i]
  ·rw[if_pos h1,drop_yes a b i (by omega) (by omega) h1]
  ·rw[if_neg h1,drop_no a b i (by omega) (by omega) h1]
theorem yo6 (a b:List Int) (hl:a.length<9223372036854775807) (k:Nat) (hk:a.length+1≤k):ya3.f k a b=some (decide (a=b)):=by
 refine up (g:=fun k=>ya3.f k a b) (fun k=>ya3.mono a b k) (k:=a.length+1) ?_ k hk
 show ya3.f _ _ _=_
 unfold ya3.f
 by_cases h:a.length=b.length
 ·rw[if_pos (by omega)]
  exact same_l0 a b h hl a.length 0 (by omega)
 ·rw[if_neg (by omega)]
  have:a≠b:=fun e=>h (by rw[e])
  simp [this]
def cmpL:List Int→List Int→Int
 | [],[]=>0
 | [],_::_=>-1
 | _::_,[]=>1
 | x::xs,y::ys=>if x<y then -1 else if x > y then 1 else cmpL xs ys
theorem order_l0 (a b:List Int) (hl:a.length<9223372036854775807):∀ n i,i+n=a.length→i≤b.length→yan.l0 (2*n+2) a b (i:Int)=some (cmpL (a.drop i) (b.drop i)):=by
 intro n
 induction n with
 | zero =>
  intro i h hb
  unfold yan.l0
  rw[if_neg (by omega)]
  unfold yan.j1
  rw[if_neg (by simp),List.drop_of_length_le (l:=a) (by omega)]
  by_cases h1:i<b.length
  ·rw[if_pos (by omega),List.drop_eq_getElem_cons h1];rfl
  ·rw[if_neg (by omega),if_neg (by omega),List.drop_of_length_le (l:=b) (by omega)];rfl
 | succ n ih =>
  intro i h hb
  have hi:i<a.length:=by omega
  rw[show 2*(n+1)+2=(2*n+2)+1+1 from by omega]
  unfold yan.l0
  rw[if_pos (by omega)]
  unfold yan.j1
  by_cases h1:i<b.length
  ·rw[if_pos (by simp;omega),if_pos (by omega),if_pos (by omega),if_pos (by omega),ybj hi,ybj h1,w64s i (by omega),ih (i+1) (by omega) (by omega),
    List.drop_eq_getElem_cons (i:=i) (l:=a) hi,List.drop_eq_getElem_cons (i:=i) (l:=b) h1]
   simp only[cmpL]
   by_cases h2:a[i]<b[i]
   ·rw[if_pos h2,if_pos h2]
   ·rw[if_neg h2,if_neg h2]
    by_cases h3:a[i] > b[i]
    ·rw[if_pos h3,if_pos h3]
    ·rw[if_neg h3,if_neg h3]
  ·rw[if_neg (by simp;omega),if_neg (by omega),if_pos (by omega),List.drop_eq_getElem_cons (i:=i) (l:=a) hi,List.drop_of_length_le (l:=b) (by omega)]
   rfl
theorem order_law (a b:List Int) (hl:a.length<9223372036854775807) (k:Nat) (hk:2*a.length+2≤k):yan.f k a b=some (cmpL a b):=
 up (g:=fun k=>yan.f k a b) (fun k=>yan.mono a b k) (k:=2*a.length+2) (order_l0 a b hl a.length 0 (by omega) (by omega)) k hk
theorem yhb (a:List Int):cmpL a a=0:=by
 induction a with
 | nil=>rfl
 | cons x a ih=>simp [cmpL,ih]
theorem cmpL_eq {a b:List Int} (h:cmpL a b=0):a=b:=by
 induction a generalizing b with
 | nil=>cases b with
  | nil=>rfl
  | cons y b=>simp [cmpL] at h
 | cons x a ih=>cases b with
  | nil=>simp [cmpL] at h
  | cons y b =>
   simp only[cmpL] at h
   split at h
   ·omega
   ·split at h
    ·omega
    ·rw[ih h,show x=y from by omega]
theorem yfo {a b c:List Int} (h1:cmpL a b<0) (h2:cmpL b c<0):cmpL a c<0:=by
 induction a generalizing b c with
 | nil=>cases b with
  | nil=>simp [cmpL] at h1
  | cons y b=>cases c with
   | nil=>simp [cmpL] at h2
   | cons z c=>simp [cmpL]
 | cons x a ih=>cases b with
  | nil=>simp [cmpL] at h1
  | cons y b=>cases c with
   | nil=>simp [cmpL] at h2
   | cons z c =>
    simp only[cmpL] at h1 h2 ⊢
    split at h1
    ·split at h2
     ·rw[if_pos (by omega)];omega
     ·split at h2
      ·omega
      ·rw[if_pos (by omega)];omega
    ·split at h1
     ·omega
     ·split at h2
      ·rw[if_pos (by omega)];omega
      ·split at h2
       ·omega
       ·rw[if_neg (by omega),if_neg (by omega)]
        exact ih h1 h2
theorem yj7 (a b:List Int):cmpL a b = - cmpL b a:=by
 induction a generalizing b with
 | nil=>cases b <;> simp [cmpL]
 | cons x a ih=>cases b with
  | nil=>simp [cmpL]
  | cons y b =>
   simp only[cmpL]
   by_cases h:x<y
   ·rw[if_pos h,if_neg (by omega),if_pos (by omega)]
   ·rw[if_neg h]
    by_cases h':y<x
    ·rw[if_pos (by omega),if_pos h'];rfl
    ·rw[if_neg (by omega),if_neg h',if_neg (by omega)]
     exact ih b
abbrev yd1 (es:List (List Int)):Prop:=es.Pairwise (fun a b=>cmpL a b<0)
def pos:List (List Int)→List Int→Nat
 | [],_=>0
 | e::es,s=>if cmpL e s<0 then pos es s+1 else 0
def ins:List (List Int)→List Int→List (List Int)
 | [],s=>[s]
 | e::es,s=>if cmpL e s<0 then e::ins es s else if e=s then e::es else s::e::es
structure ykt (es:List (List Int)) (s:List Int) (p:Nat):Prop where
 le:p≤es.length
 below:∀ j (h:j<es.length),j<p→cmpL es[j] s<0
 above:∀ j (h:j<es.length),p≤j→¬ cmpL es[j] s<0
theorem ykt.unique {es s p q} (hp:ykt es s p) (hq:ykt es s q):p=q:=by
 rcases Nat.lt_trichotomy p q with h|h|h
 ·have l:=hq.le
  exact absurd (hq.below p (by omega) h) (hp.above p (by omega) (Nat.le_refl _))
 ·exact h
 ·have l:=hp.le
  exact absurd (hp.below q (by omega) h) (hq.above q (by omega) (Nat.le_refl _))
theorem not_lt_up {a b s:List Int} (hab:cmpL a b<0) (h:¬ cmpL a s<0):¬ cmpL b s<0:=fun h'=>h (yfo hab h')
theorem pos_is {es:List (List Int)} (hs:yd1 es) (s:List Int):ykt es s (pos es s):=by
 induction es with
 | nil=>exact⟨by simp [pos],fun j h=>absurd h (by simp),fun j h=>absurd h (by simp)⟩
 | cons e es ih =>
  obtain⟨h1,h2⟩:=List.pairwise_cons.1 hs
  have I:=ih h2
  unfold pos
  split
  ·rename_i hlt
   refine⟨by have:=I.le;simp;omega,fun j h hj=>?_,fun j h hj=>?_⟩
   ·cases j with
    | zero=>exact hlt
    | succ j=>exact I.below j (by simpa using h) (by omega)
   ·cases j with
    | zero=>omega
    | succ j=>exact I.above j (by simpa using h) (by omega)
  ·rename_i hlt
   refine⟨by simp,fun j h hj=>by omega,fun j h hj=>?_⟩
   cases j with
   | zero=>exact hlt
   | succ j=>exact not_lt_up (h1 _ (List.getElem_mem (by simpa using h))) hlt
theorem yd1.get {es:List (List Int)} (hs:yd1 es) {i j:Nat} (hij:i<j) (hj:j<es.length):cmpL es[i] es[j]<0:=List.pairwise_iff_getElem.1 hs i j (by omega) hj hij
theorem ins_mem {es:List (List Int)} {s x:List Int}:x∈ins es s↔x=s∨x∈es:=by
 induction es with
 | nil=>simp [ins]
 | cons a es ih =>
  unfold ins
  split
  ·rw[List.mem_cons,ih,List.mem_cons]
   constructor
   ·rintro(h|h|h)
    ·exact .inr (.inl h)
    ·exact .inl h
    ·exact .inr (.inr h)
   ·rintro(h|h|h)
    ·exact .inr (.inl h)
    ·exact .inl h
    ·exact .inr (.inr h)
  ·split
   ·rename_i h;subst h;simp
   ·simp
theorem cmpL_pos {a b:List Int} (h:¬ cmpL a b<0) (hne:a≠b):cmpL b a<0:=by
 have h1:cmpL a b≠0:=fun e=>hne (cmpL_eq e)
 rw[yj7];omega
theorem yrk {es:List (List Int)} (hs:yd1 es) (s:List Int):yd1 (ins es s):=by
 induction es with
 | nil=>simp [ins,yd1]
 | cons a es ih =>
  obtain⟨h1,h2⟩:=List.pairwise_cons.1 hs
  unfold ins
  split
  ·rename_i hlt
   refine List.pairwise_cons.2 ⟨fun x hx=>?_,ih h2⟩
   rcases ins_mem.1 hx with rfl|hx
   ·exact hlt
   ·exact h1 x hx
  ·rename_i hlt
   split
   ·exact hs
   ·rename_i hne
    have hsa:=cmpL_pos hlt hne
    refine List.pairwise_cons.2 ⟨fun x hx=>?_,hs⟩
    rcases List.mem_cons.1 hx with rfl|hx
    ·exact hsa
    ·exact yfo hsa (h1 x hx)
theorem yrd (es:List (List Int)) (s:List Int):(ins es s).length≤es.length+1:=by
 induction es with
 | nil=>simp [ins]
 | cons a es ih =>
  unfold ins
  split
  ·simp;omega
  ·split <;> simp
def ents (ss:List (List Int)):List (List Int):=ss.foldl ins []
theorem fold_mem {ss es:List (List Int)} {x:List Int}:x∈ss.foldl ins es↔x∈es∨x∈ss:=by
 induction ss generalizing es with
 | nil=>simp
 | cons s ss ih =>
  rw[List.foldl_cons,ih,ins_mem,List.mem_cons]
  constructor
  ·rintro((h|h)|h)
   ·exact .inr (.inl h)
   ·exact .inl h
   ·exact .inr (.inr h)
  ·rintro(h|h|h)
   ·exact .inl (.inr h)
   ·exact .inl (.inl h)
   ·exact .inr h
theorem yp6 {ss es:List (List Int)} (h:yd1 es):yd1 (ss.foldl ins es):=by
 induction ss generalizing es with
 | nil=>exact h
 | cons s ss ih=>exact ih (yrk h s)
theorem yp1 (ss es:List (List Int)):(ss.foldl ins es).length≤es.length+ss.length:=by
 induction ss generalizing es with
 | nil=>simp
 | cons s ss ih =>
  have:=ih (ins es s)
  have:=yrd es s
  simp only[List.foldl_cons,List.length_cons];omega
theorem yd0 {ss:List (List Int)} {x:List Int}:x∈ents ss↔x∈ss:=by rw[ents,fold_mem];simp
theorem ye3 (ss:List (List Int)):yd1 (ents ss):=yp6 List.Pairwise.nil
theorem yg5 (ss:List (List Int)):(ents ss).length≤ss.length:=by have:=yp1 ss [];simpa [ents] using this
theorem yj9 {es:List (List Int)} (hs:yd1 es) {s:List Int} (hm:s∈es):∃ h:pos es s<es.length,es[pos es s]=s:=by
 obtain⟨i,hi,e⟩:=List.getElem_of_mem hm
 have I:=pos_is hs s
 have:i=pos es s:=by
  refine ykt.unique ⟨by omega,fun j h hj=>?_,fun j h hj hlt=>?_⟩ I
  ·have:=hs.get hj hi
   rwa [e] at this
  ·rcases Nat.lt_or_eq_of_le hj with h'|h'
   ·have h1:=hs.get h' h
    rw[e] at h1
    have:=yfo h1 hlt
    rw[yhb] at this;omega
   ·subst h';rw[e,yhb] at hlt;omega
 subst this
 exact⟨hi,e⟩
def idx (ss:List (List Int)):List (List Int)×List Int×Int:=
 if 4096<ss.length∨∃ s∈ss,200<s.length then ([],[],4) else (ents ss,ss.map (fun s=>((pos (ents ss) s:Nat):Int)),0)
theorem yn0 {a b:List (List Int)} (ha:yd1 a) (hb:yd1 b) (h:∀ x,x∈a↔x∈b):a=b:=by
 induction a generalizing b with
 | nil=>cases b with
  | nil=>rfl
  | cons y b=>exact absurd ((h y).2 (by simp)) (by simp)
 | cons x a ih=>cases b with
  | nil=>exact absurd ((h x).1 (by simp)) (by simp)
  | cons y b =>
   obtain⟨ha1,ha2⟩:=List.pairwise_cons.1 ha
   obtain⟨hb1,hb2⟩:=List.pairwise_cons.1 hb
   have irr:∀ z:List Int,¬ cmpL z z<0:=fun z=>by rw[yhb];omega
   have hxy:x=y:=by
    rcases List.mem_cons.1 ((h x).1 (by simp)) with e|hx
    ·exact e
    ·rcases List.mem_cons.1 ((h y).2 (by simp)) with e|hy
     ·exact e.symm
     ·exact absurd (yfo (hb1 x hx) (ha1 y hy)) (irr y)
   subst hxy
   congr 1
   refine ih ha2 hb2 fun z=>⟨fun hz=>?_,fun hz=>?_⟩
   ·rcases List.mem_cons.1 ((h z).1 (List.mem_cons_of_mem _ hz)) with e|hz'
    ·exact absurd (e▸ha1 z hz) (irr z)
    ·exact hz'
   ·rcases List.mem_cons.1 ((h z).2 (List.mem_cons_of_mem _ hz)) with e|hz'
    ·exact absurd (e▸hb1 z hz) (irr z)
    ·exact hz'
end Go.Proofs.YteeikgjjgfdjgaaGreat.PK
end
section
namespace Go.Proofs.YteeikgjjgfdjgaaGreat.PK
open Go.RowKit Go.Maps YteeikgjjgfdjgaaGreatW.PrintWords
set_option linter.unusedVariables false
set_option linter.unusedSimpArgs false
def Bys (xs:List Int):Prop:=∀ x∈xs,0≤x∧x<256
def keyL (xs:List Int):List UInt8:=xs.map fun n=>UInt8.ofNat n.toNat
theorem of_lt {x y:Int} (hx:0≤x∧x<256) (hy:0≤y∧y<256):UInt8.ofNat x.toNat<UInt8.ofNat y.toNat↔x<y:=by
 rw[UInt8.lt_iff_toNat_lt,UInt8.toNat_ofNat',UInt8.toNat_ofNat']
 omega
theorem of_eq {x y:Int} (hx:0≤x∧x<256) (hy:0≤y∧y<256) (h:UInt8.ofNat x.toNat=UInt8.ofNat y.toNat):x=y:=by
 have:=congrArg UInt8.toNat h
 rw[UInt8.toNat_ofNat',UInt8.toNat_ofNat'] at this
 omega
theorem key_inj {a b:List Int} (ha:Bys a) (hb:Bys b) (h:keyL a=keyL b):a=b:=by
 induction a generalizing b with
 | nil=>cases b with
  | nil=>rfl
  | cons y b=>simp [keyL] at h
 | cons x a ih=>cases b with
  | nil=>simp [keyL] at h
  | cons y b =>
   simp only[keyL,List.map_cons,List.cons.injEq] at h
   rw[of_eq (ha x (by simp)) (hb y (by simp)) h.1,ih (fun z hz=>ha z (by simp [hz])) (fun z hz=>hb z (by simp [hz])) h.2]
theorem key_lt {a b:List Int} (ha:Bys a) (hb:Bys b) (h:cmpL a b<0):keyL a<keyL b:=by
 induction a generalizing b with
 | nil=>cases b with
  | nil=>simp [cmpL] at h
  | cons y b=>exact List.nil_lt_cons _ _
 | cons x a ih=>cases b with
  | nil=>simp [cmpL] at h
  | cons y b =>
   have hx:=ha x (by simp)
   have hy:=hb y (by simp)
   simp only[cmpL] at h
   refine List.cons_lt_cons_iff.2 ?_
   by_cases h1:x<y
   ·exact .inl ((of_lt hx hy).2 h1)
   ·rw[if_neg h1] at h
    by_cases h2:x > y
    ·rw[if_pos h2] at h;omega
    ·rw[if_neg h2] at h
     obtain rfl:x=y:=by omega
     exact .inr ⟨rfl,ih (fun z hz=>ha z (by simp [hz])) (fun z hz=>hb z (by simp [hz])) h⟩
theorem yp8 {es:List (List Int)} (hs:yd1 es) (hb:∀ r∈es,Bys r):(es.map keyL).Pairwise (fun a b=>leB a b=true):=by
 refine List.pairwise_map.2 (hs.imp_of_mem fun {a b} ha hb' h=>?_)
 simp only[leB,decide_eq_true_eq]
 exact List.le_of_lt (key_lt (hb a ha) (hb b hb') h)
theorem yrp {es:List (List Int)} (hs:yd1 es) (hb:∀ r∈es,Bys r):(es.map keyL).Nodup:=by
 refine List.pairwise_map.2 (hs.imp_of_mem fun {a b} ha hb' h e=>?_)
 rw[key_inj (hb a ha) (hb b hb') e,yhb] at h
 omega
theorem sort_is {es:List (List Int)} (hs:yd1 es) (hb:∀ r∈es,Bys r) {ss:List (List UInt8)} (h:ss.Perm (es.map keyL)):ss.mergeSort (fun x y=>decide (x≤y))=es.map keyL:=by
 rw[mergeSort_of_perm h]
 exact List.mergeSort_of_pairwise (yp8 hs hb)
theorem law9:Keyed Tryz.prog 9:=string_keyed Tryz.underlying9
theorem zero3 (w:World):(zeroValue 3).run Tryz.prog w=.ok (.int .i64 0) w:=by kernel_rfl
structure MapAt (w:World) (b n:Nat) (l:List (List Int)) (f:List Int→Int):Prop where
 own:∃ D:DataW Unit,w.ownsMap Tryz.prog 9 (plainElem Tryz.prog 3) b n D∧(∀ x,has D (.string x)=decide (x∈l.map keyL)) ∧
  (∀ s∈l,D.atKey (.string (keyL s)) (.lit (.int .i64 0))=.lit (.int .i64 (f s)))
theorem MapAt.kept {w w':World} {b n:Nat} {l f} (h:MapAt w b n l f) (hb:w'.heap[b]?=w.heap[b]?):MapAt w' b n l f:=by
 obtain⟨⟨D,⟨es,clock,h1,h2⟩,h3⟩⟩:=h
 exact⟨⟨D,⟨es,clock,hb.trans h1,h2⟩,h3⟩⟩
theorem MapAt.lt {w:World} {b n:Nat} {l f} (h:MapAt w b n l f):b<w.heap.size:=by
 obtain⟨⟨D,h1,_⟩⟩:=h
 exact h1.lt
theorem MapAt.empty {w:World} {b:Nat} (f) (h:w.heap[b]?=some (.map #[] 0)):MapAt w b 0 [] f:=
 ⟨⟨.map [],⟨#[],0,h,⟨by simp,MapKept.stamped_empty 0,by simp⟩,Nat.le_refl _,rfl⟩,fun x=>rfl,fun x h=>absurd h (by simp)⟩⟩
theorem yo8 {D:DataW Unit} (hD:IsMap D) (t x:List UInt8) (d:DataW Unit):has (D.put (.string t) d) (.string x)=(decide (x=t)||has D (.string x)):=by
 by_cases e:x=t
 ·subst e;rw[has_put_same hD (k:=.string x) trivial];simp
 ·rw[has_put_other (fun h=>e (by injection h))];simp [e]
theorem atS_put {D:DataW Unit} (hD:IsMap D) (t x:List UInt8) (d z:DataW Unit):(D.put (.string t) d).atKey (.string x) z=if x=t then d else D.atKey (.string x) z:=by
 by_cases e:x=t
 ·subst e;rw[atKey_put_same hD (k:=.string x) trivial];simp
 ·rw[atKey_put_other (fun h=>e (by injection h))];simp [e]
theorem key_of (xs:List Int) (h:xs.length≤9223372036854775807):keyOf Tryz.prog 9 (.string (strOfNums xs))=some (.string (keyL xs)):=
 Go.WideMaps.keyOf_string_mk Tryz.underlying9 (by rw[strOfNums_size];exact h)
theorem put_more {w1:World} {b n:Nat} {D:DataW Unit} {ss:List (List Int)} {k:Nat} (hk:k<ss.length) (hd:IsMap D) (hhas:∀ x,has D (.string x)=decide (x∈(ss.take k).map keyL))
  (hat:∀ s∈ss.take k,D.atKey (.string (keyL s)) (.lit (.int .i64 0))=.lit (.int .i64 0))
  (hown:w1.ownsMap Tryz.prog 9 (plainElem Tryz.prog 3) b (n+1) (D.put (.string (keyL ss[k])) (.lit (.int .i64 0)))):MapAt w1 b (n+1) (ss.take (k+1)) (fun _=>0):=by
 refine⟨⟨_,hown,fun x=>?_,fun s hs=>?_⟩⟩
 ·rw[yo8 hd,hhas,← ybd ss k hk,List.map_append,Bool.eq_iff_iff]
  simp [or_comm]
 ·rw[atS_put hd]
  split
  ·rfl
  ·rename_i hne
   rw[← ybd ss k hk] at hs
   rcases List.mem_append.1 hs with hs|hs
   ·exact hat s hs
   ·rw[List.mem_singleton.1 hs] at hne;exact absurd rfl hne
theorem _root_.Go.Proofs.YteeikgjjgfdjgaaGreat.PK.MapAt.imp {w:World} {b n:Nat} {l f f'} (h:MapAt w b n l f) (hf:∀ s∈l,f s=f' s):MapAt w b n l f':=by
 obtain⟨⟨D,h1,h2,h3⟩⟩:=h
 exact⟨⟨D,h1,h2,fun s hs=>by rw[h3 s hs,hf s hs]⟩⟩
theorem keys_any (b:Nat) (w:World):Calls Tryz.prog 141 #[.map (some b)] w fun e w'=>e=.returned (.func (.func 150) #[] #[.pointer (some ⟨w.heap.size,0,none⟩)])∧w'=w.alloc (.cells #[.map (some b)] 167):=
 callsIn_wide.1 (Tryz.maps_Keys_141 (some b) w)
theorem yrq (b n:Nat) (ss:List (List Int)) (f) (w:World) (h:MapAt w b n ss f) (hb:∀ s∈ss,Bys s) (hn:n≤1000000) :
  Calls Tryz.prog 140 #[.func (.func 150) #[] #[.pointer (some ⟨w.heap.size,0,none⟩)]] (w.alloc (.cells #[.map (some b)] 167)) fun e w'=>∃ v:Value,e=.returned v ∧
   w'.ownsRow (w.heap.size+1) 9 1 v (ents ss).length ((ents ss).map fun s=>.string (strOfNums s))∧Below (w.heap.size+1) (w.alloc (.cells #[.map (some b)] 167)) w':=by
 obtain⟨⟨D,hown,hhas,hat⟩⟩:=h
 have hs:=hown.size_le
 have hbe:∀ s∈ents ss,Bys s:=fun s hm=>hb s (yd0.1 hm)
 have hp:((ents ss).map keyL).Perm (strKeys D):=Collected.perm (left:=fun _=>false) ⟨yrp (ye3 ss) hbe,fun x=>by
  rw[hhas];simp [List.mem_map,yd0]⟩ hown law9 Tryz.underlying9 (fun _=>rfl)
 refine(callsIn_wide.1 (Tryz.slices_Sorted_keys_140_141 b n D _ w hown (by unfold maxLen;omega) (by omega))).mono ?_
 rintro e w' ⟨v,ts,rfl,h1,h2,h3,h4⟩
 have e1:(w.alloc (.cells #[.map (some b)] 167)).heap.size=w.heap.size+1:=by simp
 have h5:=h1.trans hp.symm
 have h6:=sort_is (ye3 ss) hbe h5
 have h7:ts.length=(ents ss).length:=by rw[h5.length_eq,List.length_map]
 rw[e1] at h2 h4
 rw[h6,h7,List.map_map] at h2
 exact⟨v,rfl,h2,h4⟩
theorem ygr {w:World} {base n:Nat} {e:TypeId} {v:Value} {xs:List Value} (h:w.ownsRow base e 1 v n xs) :
  ∃ A c,v=.slice A n c∧n≤c∧(0<n→∃ g,base≤g∧g<w.heap.size∧A=some ⟨g,0,none⟩∧∀ j,j<n→w.cell? ⟨g,j,none⟩=xs[j]?):=by
 have h':=h
 obtain⟨h1,h2⟩:=h
 rcases h2 with ⟨rfl,rfl⟩|⟨g,cap,cur,rfl,hg,hcur,r1,r2,r3,r4⟩
 ·exact⟨none,0,rfl,Nat.le_refl _,fun h=>absurd h (by omega)⟩
 ·exact⟨_,cap,rfl,r1,fun _=>⟨g,hg,lt_of_block hcur,rfl,fun j hj=>h'.cellAt j (by omega)⟩⟩
def Made (w:World) (base:Nat) (g:Nat) (v:Value) (xs:List Int):Prop:=
 ∃ cap cells m,v=.slice (some ⟨g,0,none⟩) xs.length cap∧base≤g∧xs.length≤cap∧w.heap[g]?=some (.cells cells 5 m)∧cells.size=cap∧cap≤m.1∧cap≤maxLen∧∀ i (h:i<xs.length),cells[i]?=some (.int .u8 xs[i])
theorem Made.keep {w w':World} {base g v xs} (h:Made w base g v xs) (hb:w'.heap[g]?=w.heap[g]?):Made w' base g v xs:=by
 obtain⟨cap,cells,m,h1,h2,h3,h4,h5⟩:=h
 exact⟨cap,cells,m,h1,h2,h3,hb.trans h4,h5⟩
theorem Made.lt {w:World} {base g v xs} (h:Made w base g v xs):g<w.heap.size:=by
 obtain⟨cap,cells,m,h1,h2,h3,h4,h5⟩:=h
 exact lt_of_block h4
theorem Made.lower {w:World} {base base' g v xs} (h:Made w base g v xs) (hb:base'≤base):Made w base' g v xs:=by
 obtain⟨cap,cells,m,h1,h2,h5⟩:=h
 exact⟨cap,cells,m,h1,by omega,h5⟩
theorem yqm (W:World) (xs:List Int) (hx:Bys xs) (hl:xs.length≤maxLen) :
  Made (Lib.bytesWorld W 5 (strOfNums xs)) W.heap.size W.heap.size (.slice (some ⟨W.heap.size,0,none⟩) xs.length (grownCap W (strOfNums xs).size 0 5)) xs:=by
 have hcap:xs.length≤grownCap W (strOfNums xs).size 0 5:=by
  have:=grownCap_ge W (strOfNums xs).size 0 5
  rwa [strOfNums_size] at this ⊢
 have hmax:=grownCap_le_maxLen W (strOfNums xs).size 0 5 (by rw[strOfNums_size];exact hl)
 have hsz:(Lib.bytesCells W 5 (strOfNums xs)).size=grownCap W (strOfNums xs).size 0 5:=by
  have hn:=strOfNums_size xs
  have hd:(strOfNums xs).data.size=xs.length:=hn
  simp only[Lib.bytesCells,Array.size_append,Array.size_map,Array.size_replicate,hd]
  omega
 refine⟨_,_,_,rfl,Nat.le_refl _,hcap,Lib.bytesWorld_at_new W 5 _,hsz,by rw[hsz];exact Nat.le_refl _,hmax,fun i h=>?_⟩
 have:=Lib.bytesWorld_cell W 5 (strOfNums xs) i (by rw[strOfNums_size];exact h)
 simp only[World.cell?,Lib.bytesWorld_at_new] at this
 have this:=(if_neg (by simp)).symm.trans this
 rw[this,strOfNums_data]
 have h1:=hx xs[i] (List.getElem_mem h)
 congr 2
 simp [List.getD,h]
 omega
def Ent (w:World) (base:Nat) (v:Value) (es:List (List Int)):Prop:=
 ∃ (vs:List Value) (gs:List Nat),w.ownsRow base 25 1 v es.length vs∧gs.length=es.length∧gs.Nodup ∧
  ∀ i (h:i<es.length) (hg:i<gs.length),∃ u,vs[i]?=some u∧Made w base gs[i] u es[i]
theorem yl1 {w:World} {base base' n:Nat} {v u:Value} {g:Nat} {xs:List Int} {vs:List Value} (h:w.ownsRow base 25 1 v n vs) (hm:Made w base' g u xs):v.ownBlock≠some g:=by
 intro e
 obtain⟨cells,hc⟩:=ydt h g e
 obtain⟨cap,cells',m,_,_,_,h4,_⟩:=hm
 rw[hc] at h4
 injection h4 with h4
 injection h4 with _ h4
 exact absurd h4 (by decide)
theorem Ent.nil {w:World} {base:Nat} {A:Option Addr} {c:Nat} (h:w.ownsRow base 25 1 (.slice A 0 c) 0 []):Ent w base (.slice A 0 c) []:=
 ⟨[],[],h,rfl,List.nodup_nil,fun i h=>absurd h (by simp)⟩
theorem own_same {w:World} {base n:Nat} {v:Value} {xs ys:List Value} {e:TypeId} (h:w.ownsRow base e 1 v n xs) (h':w.ownsRow base e 1 v n ys):xs=ys:=by
 obtain⟨l1,h1⟩:=h
 obtain⟨l2,h2⟩:=h'
 rcases h1 with ⟨rfl,rfl⟩|⟨g,cap,cur,rfl,hg,hcur,r1,r2,r3,r4⟩
 ·rw[List.eq_nil_of_length_eq_zero (by omega:xs.length=0),List.eq_nil_of_length_eq_zero (by omega:ys.length=0)]
 ·rcases h2 with ⟨h2,_⟩|⟨g',cap',cur',e2,hg',hcur',_,_,_,r4'⟩
  ·cases h2
  ·injection e2 with e2 _ _
   injection e2 with e2
   injection e2 with e2 _ _
   subst e2
   rw[hcur] at hcur'
   injection hcur' with hcur'
   injection hcur' with hcur' _ _
   subst hcur'
   rw[← r4,← r4']
theorem Ent.below {w w1:World} {base:Nat} {v:Value} {es:List (List Int)} (hE:Ent w base v es) (hb:Below w.heap.size w w1):Ent w1 base v es:=by
 obtain⟨vs,gs,h1,h2,h4,h5⟩:=hE
 refine⟨vs,gs,yey h1 (fun k hk=>hb.block k (yft h1 k hk)),h2,h4,fun i h hg=>?_⟩
 obtain⟨u',hu',hM'⟩:=h5 i h hg
 exact⟨u',hu',hM'.keep (hb.block _ hM'.lt)⟩
theorem Ent.snoc {w0 w w3:World} {base g:Nat} {v v' u:Value} {es:List (List Int)} {x:List Int} (hE:Ent w0 base v es) (hb:Below w0.heap.size w0 w) (hge:w0.heap.size≤g) (hm:Made w base g u x)
  (hg3:w.grownBy w3 v.ownBlock) {vs:List Value} (h0:w.ownsRow base 25 1 v es.length vs) (h3:w3.ownsRow base 25 1 v' (es.length+1) (vs++[u])):Ent w3 base v' (es++[x]):=by
 obtain⟨vs',gs,h1,h2,h4,h5⟩:=hE
 have h1:=yey h1 (fun k hk=>hb.block k (yft h1 k hk))
 obtain rfl:vs'=vs:=own_same h1 h0
 have hkeep:∀ g' u' x',Made w base g' u' x'→Made w3 base g' u' x':=fun g' u' x' hM=>hM.keep (hg3.block g' hM.lt (fun e=>yl1 h1 hM e.symm))
 have hvl:vs'.length=es.length:=by have:=h1.1;omega
 refine⟨vs'++[u],gs++[g],by rw[List.length_append];exact h3,by simp [h2],?_,fun i h hg=>?_⟩
 ·refine List.nodup_append.2 ⟨h4,by simp,fun a ha b hb e=>?_⟩
  rw[List.mem_singleton.1 hb] at e
  obtain⟨i,hi,e2⟩:=List.getElem_of_mem ha
  obtain⟨u',hu',hM'⟩:=h5 i (by omega) hi
  have:=hM'.lt
  omega
 ·rcases Nat.lt_or_ge i es.length with hi|hi
  ·obtain⟨u',hu',hM'⟩:=h5 i hi (by omega)
   refine⟨u',by rw[List.getElem?_append_left (by omega)];exact hu',?_⟩
   rw[List.getElem_append_left (by omega),List.getElem_append_left hi]
   exact hkeep _ _ _ (hM'.keep (hb.block _ hM'.lt))
  ·have:i=es.length:=by simp at h;omega
   subst this
   refine⟨u,by rw[List.getElem?_append_right (by omega)];simp [hvl],?_⟩
   have e1:(gs++[g])[es.length]=g:=by rw[List.getElem_append_right (by omega)];simp [h2]
   rw[e1]
   simp only[List.getElem_append_right (Nat.le_refl _),Nat.sub_self,List.getElem_cons_zero]
   exact hkeep _ _ _ hm
theorem Ent.turn {w w1:World} {base b:Nat} {v:Value} {es:List (List Int)} (hE:Ent w base v es) (ht:w.mapTurned w1 b):Ent w1 base v es:=by
 have hg:=ht.grown
 obtain⟨es',clock,_,_,hmap,_⟩:=ht
 have hsame:∀ k cells t m,w.heap[k]?=some (Obj.cells cells t m)→w1.heap[k]?=w.heap[k]?:=fun k cells t m hk=>hg.block k (lt_of_block hk) (fun e=>by
  have e:k=b:=by injection e
  rw[e,hmap] at hk
  cases hk)
 obtain⟨vs,gs,h1,h2,h4,h5⟩:=hE
 refine⟨vs,gs,yey h1 (fun k hk=>by obtain⟨cells,hc⟩:=ydt h1 k hk;exact hsame k _ _ _ hc),h2,h4,fun i h hg=>?_⟩
 obtain⟨u',hu',hM'⟩:=h5 i h hg
 have hM2:=hM'
 obtain⟨cap,cells,m,_,_,_,hc,_⟩:=hM2
 exact⟨u',hu',hM'.keep (hsame _ _ _ _ hc)⟩
theorem Ent.grown {w w1:World} {base g:Nat} {v:Value} {es:List (List Int)} (hE:Ent w base v es) (hg:w.grownBy w1 (some g)) {cells:Array Value} {t:Nat} {m:Nat×Nat} (hc:w.heap[g]?=some (Obj.cells cells t m)) (h55:t≠25) (h5:t≠5):Ent w1 base v es:=by
 obtain⟨vs,gs,h1,h2,h4,h6⟩:=hE
 refine⟨vs,gs,yey h1 (fun k hk=>?_),h2,h4,fun i h hgi=>?_⟩
 ·refine hg.block k (yft h1 k hk) (fun e=>?_)
  have e:k=g:=by injection e
  subst e
  obtain⟨cells',hc'⟩:=ydt h1 k hk
  rw[hc] at hc'
  injection hc' with hc'
  injection hc' with _ hc' _
  exact h55 hc'
 ·obtain⟨u',hu',hM'⟩:=h6 i h hgi
  refine⟨u',hu',hM'.keep (hg.block _ hM'.lt (fun e=>?_))⟩
  have e:gs[i]=g:=by injection e
  obtain⟨cap,cells',m',_,_,_,h7,_⟩:=hM'
  rw[e,hc] at h7
  injection h7 with h7
  injection h7 with _ h7 _
  exact h5 h7
def cod (ss:List (List Int)) (k:Nat):List Int:=(List.range ss.length).map fun j=>if j<k then ((pos (ents ss) (ss.getD j []):Nat):Int) else 0
theorem cod_set (ss:List (List Int)) (k:Nat) (h:k<ss.length):(cod ss k).set k ((pos (ents ss) ss[k]:Nat):Int)=cod ss (k+1):=by
 apply List.ext_getElem
 ·simp [cod]
 ·intro j h1 h2
  rw[List.getElem_set]
  simp only[cod,List.getElem_map,List.getElem_range]
  by_cases h3:k=j
  ·subst h3
   rw[if_pos rfl,if_pos (by omega),List.getD_eq_getElem?_getD,List.getElem?_eq_getElem h]
   rfl
  ·rw[if_neg h3]
   by_cases h4:j<k
   ·rw[if_pos h4,if_pos (by omega)]
   ·rw[if_neg h4,if_neg (by omega)]
theorem cod_zero (ss:List (List Int)):cod ss 0=List.replicate ss.length 0:=by
 apply List.ext_getElem
 ·simp [cod]
 ·intro j h1 h2
  simp [cod]
theorem cod_all (ss:List (List Int)):cod ss ss.length=ss.map (fun s=>((pos (ents ss) s:Nat):Int)):=by
 apply List.ext_getElem
 ·simp [cod]
 ·intro j h1 h2
  have h3:j<ss.length:=by simpa [cod] using h1
  simp only[cod,List.getElem_map,List.getElem_range,if_pos h3]
  rw[List.getD_eq_getElem?_getD,List.getElem?_eq_getElem h3]
  rfl
def num (ss:List (List Int)) (j:Nat) (s:List Int):Int:=if pos (ents ss) s<j then ((pos (ents ss) s:Nat):Int) else 0
theorem yi2 {es:List (List Int)} (hs:yd1 es) {j:Nat} (hj:j<es.length):pos es es[j]=j:=by
 refine ykt.unique (pos_is hs _) ⟨by omega,fun i h hi=>hs.get hi hj,fun i h hi hlt=>?_⟩
 rcases Nat.lt_or_eq_of_le hi with h'|h'
 ·have:=yfo (hs.get h' h) hlt
  rw[yhb] at this;omega
 ·subst h';rw[yhb] at hlt;omega
theorem put_num {w1:World} {b n:Nat} {D:DataW Unit} {ss:List (List Int)} {j:Nat} (hj:j<(ents ss).length) (hb:∀ s∈ss,Bys s) (hd:IsMap D) (hhas:∀ x,has D (.string x)=decide (x∈ss.map keyL))
  (hat:∀ s∈ss,D.atKey (.string (keyL s)) (.lit (.int .i64 0))=.lit (.int .i64 (num ss j s)))
  (hown:w1.ownsMap Tryz.prog 9 (plainElem Tryz.prog 3) b n (D.put (.string (keyL (ents ss)[j])) (.lit (.int .i64 j)))):MapAt w1 b n ss (num ss (j+1)):=by
 have hmem:(ents ss)[j]∈ss:=yd0.1 (List.getElem_mem hj)
 have hpj:=yi2 (ye3 ss) hj
 refine⟨⟨_,hown,fun x=>?_,fun s hs=>?_⟩⟩
 ·rw[yo8 hd,hhas,Bool.eq_iff_iff]
  simp only[Bool.or_eq_true,decide_eq_true_eq]
  refine⟨fun h=>?_,.inr⟩
  rcases h with rfl|h
  ·exact List.mem_map_of_mem hmem
  ·exact h
 ·rw[atS_put hd]
  split
  ·rename_i e
   have e2:=key_inj (hb s hs) (hb _ hmem) e
   rw[e2]
   unfold num
   rw[hpj,if_pos (by omega)]
  ·rename_i hne
   rw[hat s hs]
   unfold num
   obtain⟨h1,h2⟩:=yj9 (ye3 ss) (yd0.2 hs)
   have:pos (ents ss) s≠j:=fun e=>hne (by congr 1;rw[← h2];simp only[e])
   by_cases h3:pos (ents ss) s<j
   ·rw[if_pos h3,if_pos (by omega)]
   ·rw[if_neg h3,if_neg (by omega)]
theorem yl7 (A:Option Addr) (c:Nat) (ss:List (List Int)) (w:World) (hr:Kd.C (Kd.slice 5 (Kd.int .u8)) w A ss.length ss) (hc:ss.length≤c) (hb:∀ s∈ss,Bys s) :
  Calls Tryz.prog 127 #[.slice A ss.length c] w fun e w'=>∃ v1 v2,e=.returned (.tuple #[v1,v2,.int .i64 (idx ss).2.2])∧Below w.heap.size w w'∧Ent w' w.heap.size v1 (idx ss).1∧Kd.R (Kd.int .i64) 3 w' w.heap.size (fun _=>True) v2 (idx ss).2.1:=by
 have hmm:=@run_makeMap Tryz.prog
 by_cases h0:4096<ss.length
 ·have hi:idx ss=([],[],4):=by unfold idx;rw[if_pos (.inl h0)]
  go_enter Tryz.func127,Tryz.ntmps127
  go_wp2
  go_ret3
  rw[hi]
  exact⟨_,_,rfl,Below.refl _ _,Ent.nil (yho _ _ _ _),Kd.R_nil _ _ _ _ _⟩
 ·have e1:(w.alloc (.map #[] 0)).heap[w.heap.size]?=some (.map #[] 0):=(MapKept.heap_alloc w _).1
  have s1:(w.alloc (.map #[] 0)).heap.size=w.heap.size+1:=by simp
  go_enter Tryz.func127,Tryz.ntmps127
  go_wp2
  go_loopw [20] (fun vi wr=>∃ k:Nat,k≤ss.length∧vi=.int .i64 k∧(∀ s∈ss.take k,s.length≤200)∧MapAt wr w.heap.size k (ss.take k) (fun _=>0)∧Below w.heap.size w wr) (fun vi _=>ss.length-(intOf vi).toNat)
  case atStart=>exact⟨0,by omega,rfl,by simp,MapAt.empty _ e1,(Below.refl _ w).alloc (Nat.le_refl _) _⟩
  case round =>
   obtain⟨k,hk,rfl,hsm,hM,hbr⟩:=hrel
   by_cases hlt:k<ss.length
   ·obtain⟨ad,A1,c1,rfl,hx0,hc1,hC0⟩:=yhl hr (k:Int) (by omega) (by omega)
    rw[ygi hlt,Int.toNat_natCast] at *
    have hx:=(hbr.cell (World.block_lt_of_cell? w _ hx0)).trans hx0
    have hC:=Kd.C_below hC0 hbr
    clear hx0 hC0
    obtain⟨s,hs⟩:∃ s,s=ss[k]:=⟨_,rfl⟩
    rw[← hs] at hx hC hc1
    by_cases hbig:200<s.length
    ·have hi:idx ss=([],[],4):=by unfold idx;rw[if_pos (.inr ⟨s,by rw[hs];exact List.getElem_mem hlt,hbig⟩)]
     clear hC hs
     go_wp2
     go_ret3
     rw[hi]
     exact⟨_,_,rfl,hbr,Ent.nil (yho _ _ _ _),Kd.R_nil _ _ _ _ _⟩
    ·have hcv:=Kd.C_string (P:=Tryz.prog) (c:=c1) Tryz.underlying25 Tryz.underlying5 Tryz.underlying9 hC
     obtain⟨⟨D,hown,hhas,hat⟩⟩:=hM
     have hkey:=key_of s (by omega)
     have hd:IsMap D:=hown.isMap
     have HH:=Lib.hid hhas;have HAT:=Lib.hid hat;have HS:=Lib.hid hs;have HSM:=Lib.hid hsm;have HLT:=Lib.hid hlt;have HBG:=Lib.hid hbig
     clear hhas hat hs hsm hC hr hb
     go_wp2_with (first
      | (at_mapUpdate;refine wpList_mapUpdate_in _ rfl _ _ _ 167 rfl 9 3 law9 Tryz.underlying167 _ w.heap.size k D rfl hown (by unfold maxLen;omega) _ _ _ rfl rfl hkey _ [] (plainElem_int Tryz.underlying3 (WalkArith.wf_i64 (by omega))) ?_;intro w1 hown1 hturn1)
      | go_in)
     go_roundw
     case rel =>
      have hlt2:=HLT.out
      have hs2:=HS.out
      refine⟨k+1,by omega,by go_num,fun x hx=>?_,put_more hlt2 hd HH.out HAT.out (hs2▸hown1),hbr.grown hturn1.grown hbr.size (fun j hj=>by injection hj with hj;omega)⟩
      ·rw[← ybd ss k hlt2] at hx
       rcases List.mem_append.1 hx with hx|hx
       ·exact HSM.out x hx
       ·rw[List.mem_singleton.1 hx,← hs2];have:=HBG.out;omega
     case measure=>have hlt2:=HLT.out;simp [intOf];omega
   ·obtain rfl:k=ss.length:=by omega
    rw[List.take_length] at hsm hM
    have hlen:=yg5 ss
    go_upto_region 12 with (fail)
    have hM2:MapAt (wr.alloc (Obj.cells #[] 25)) w.heap.size ss.length ss (fun _=>0):=hM.kept (Below.heap_alloc _ _ _ hM.lt)
    have hB2:Below w.heap.size w (wr.alloc (Obj.cells #[] 25)):=hbr.alloc hbr.size _
    have hE2:(wr.alloc (Obj.cells #[] 25)).ownsRow w.heap.size 25 1 (.slice (some ⟨wr.heap.size,0,none⟩) 0 0) 0 []:=by
     refine⟨rfl,.inr ⟨wr.heap.size,0,#[],rfl,hbr.size,(MapKept.heap_alloc wr _).1,?_⟩⟩
     simp
    generalize (wr.alloc (Obj.cells #[] 25))=wx at *
    generalize (some ⟨wr.heap.size,0,none⟩:Option Addr)=A2 at *
    go_wp2_with (first
     | (go_at_call 141;refine(keys_any w.heap.size _).mono ?_;rintro e w1 ⟨rfl,rfl⟩)
     | (go_at_call 140;refine(yrq w.heap.size ss.length ss _ wx hM2 hb (by omega)).mono ?_;rintro e w1 ⟨v,rfl,hrow,hb1⟩;obtain⟨Av,cv,rfl,hcv,hcells⟩:=ygr hrow))
    have hbx:w.heap.size<wx.heap.size:=hM2.lt
    have hb0:Below wx.heap.size wx w1:=((Below.refl _ wx).alloc (Nat.le_refl _) _).trans (hb1.mono (Nat.le_succ _))
    have hM3:MapAt w1 w.heap.size ss.length ss (num ss 0):=(hM2.kept (hb0.block _ hbx)).imp (fun s _=>by simp [num])
    have hB3:Below w.heap.size w w1:=hB2.trans (hb0.mono (by omega))
    have hE3:Ent w1 w.heap.size (.slice A2 0 0) []:=(Ent.nil hE2).below hb0
    have hsz1:=hb0.size
    clear hM2 hB2 hE2 hM hb1 hbr
    obtain⟨n,hn⟩:∃ n,n=(ents ss).length:=⟨_,rfl⟩
    rw[← hn] at hrow hcv hcells hlen
    go_loopw [8,36] (fun ve vi wq=>∃ j:Nat,j≤n∧vi=.int .i64 j∧Ent wq w.heap.size ve ((ents ss).take j)∧MapAt wq w.heap.size (ss.length+j) ss (num ss j)∧Below w.heap.size w wq∧w1.heap.size≤wq.heap.size∧(∀ g,Av=some ⟨g,0,none⟩→wq.heap[g]?=w1.heap[g]?)) (fun _ vi _=>n-(intOf vi).toNat)
    case atStart=>exact⟨0,by omega,rfl,hE3,hM3,hB3,Nat.le_refl _,fun _ _=>rfl⟩
    case round =>
     obtain⟨j,hj,rfl,hE,hM,hbr,hsq,hgk⟩:=hrel
     by_cases hlt:j<n
     ·obtain⟨g,hg1,hg2,rfl,hcell⟩:=hcells (by omega)
      have hjn:j<(ents ss).length:=by omega
      obtain⟨x,hx⟩:∃ x,x=(ents ss)[j]:=⟨_,rfl⟩
      have hxm:x∈ss:=by rw[hx];exact yd0.1 (List.getElem_mem hjn)
      have hcj:wr.cell? ⟨g,j,none⟩=some (.string (strOfNums x)):=by
       have h1:=hcell j hlt
       rw[List.getElem?_map,List.getElem?_eq_getElem hjn,← hx] at h1
       rw[← show w1.cell? ⟨g,j,none⟩=wr.cell? ⟨g,j,none⟩ by simp only[World.cell?,hgk g rfl]]
       exact h1
      have hxl:x.length≤200:=hsm x hxm
      have hcb:=Lib.run_convert_string_bytes (P:=Tryz.prog) wr 9 25 5 (strOfNums x) Tryz.underlying9 Tryz.underlying25 Tryz.underlying5
      have hmd:=yqm wr x (hb x hxm) (by unfold maxLen;omega)
      have hE1:=hE
      obtain⟨vs,gs,ho,_,_,_⟩:=hE1
      have htl:(List.take j (ents ss)).length=j:=by rw[List.length_take];omega
      rw[htl] at ho
      obtain⟨A8,c8,rfl,hc8,_⟩:=ygr ho
      obtain⟨⟨D,hown,hhas,hat⟩⟩:=hM
      have hkey:=key_of x (by omega)
      have hd:IsMap D:=hown.isMap
      simp only[strOfNums_size] at hcb hmd
      have hob:(Lib.bytesWorld wr 5 (strOfNums x)).ownsRow w.heap.size 25 1 _ _ _:=yey ho (fun k hk=>Lib.bytesWorld_at_old wr 5 _ k (yft ho k hk))
      have hsb:=Lib.bytesWorld_size wr 5 (strOfNums x)
      have hbb:Below wr.heap.size wr (Lib.bytesWorld wr 5 (strOfNums x)):=ypq (Below.refl _ _) (Nat.le_refl _) 5 _
      have hownb:(Lib.bytesWorld wr 5 (strOfNums x)).ownsMap Tryz.prog 9 (plainElem Tryz.prog 3) w.heap.size (ss.length+j) D:=by
       obtain⟨es,clock,h1,h2⟩:=hown
       exact⟨es,clock,(hbb.block _ (lt_of_block h1)).trans h1,h2⟩
      generalize Lib.bytesWorld wr 5 (strOfNums x)=wb at *
      have hgt:=ydt hrow g rfl
      have hobase:∀ k,(Value.slice A8 j c8).ownBlock=some k→w.heap.size≤k:=fun k hk=>ydp ho k hk
      have hbne:∀ k,(Value.slice A8 j c8).ownBlock=some k→k≠w.heap.size:=by
       intro k hk e
       obtain⟨cells,hc⟩:=ydt hob k hk
       obtain⟨es,clock,h1,h2⟩:=hownb
       rw[e,h1] at hc
       cases hc
      have hwbs:w.heap.size<wb.heap.size:=by omega
      have HSB:=Lib.hid hsb
      clear hsb
      have hbS:=Lib.hid hb;have HX:=Lib.hid hx;have HH:=Lib.hid hhas;have HAT:=Lib.hid hat;have HM:=Lib.hid hmd;have HG:=Lib.hid hgk;have HE:=Lib.hid hE
      clear hx hhas hat hmd hgk hE hcell hrow hr hb hown ho
      obtain⟨i0,hi,hz0,hz1,hz2⟩:=info_parts ygm
      go_wp2_with (first
       | (at_builtin;refine wpList_append_own _ rfl _ _ 46 rfl w.heap.size 25 i0 (.slice none 0 0) 1 24 Tryz.underlying46 hi hz0 hz1 hz2 rfl (by decide) _ _ _ rfl (yf8 hob _) ⟨wb.heap.size,0,none⟩ 1 1 [.slice (some ⟨wr.heap.size,0,none⟩) x.length (grownCap wr x.length 0 5)] rfl (by simp) (cell_one_new _ _ _) (by simp [Value.oneCell']) (by unfold maxLen;omega) (by omega) (by simp;omega) ?_;intro v' w4 hown4 hgrow4 hnil4
          have hbl:=(hgrow4.block w.heap.size (by simp;omega) (fun e=>hbne _ e.symm rfl)).trans (Below.heap_alloc wb _ _ (by omega))
          have hown5:w4.ownsMap Tryz.prog 9 (plainElem Tryz.prog 3) w.heap.size (ss.length+j) D:=by
           obtain⟨es,clock,h1,h2⟩:=hownb
           exact⟨es,clock,hbl.trans h1,h2⟩)
       | (at_mapUpdate;refine wpList_mapUpdate_in _ rfl _ _ _ 167 rfl 9 3 law9 Tryz.underlying167 _ w.heap.size (ss.length+j) D rfl hown5 (by unfold maxLen;omega) _ _ _ rfl rfl hkey _ [] (plainElem_int Tryz.underlying3 (WalkArith.wf_i64 (by omega))) ?_;intro w5 hown6 hturn6))
      have hsx:=hbx
      go_roundw
      case rel =>
       have hxj:x=(ents ss)[j]:=HX.out
       have hsb:=HSB.out
       have hbw:Below wr.heap.size wr (wb.alloc (Obj.cells #[.slice (some ⟨wr.heap.size,0,none⟩) x.length (grownCap wr x.length 0 5)] 25)):=hbb.trans ((Below.refl _ wb).alloc (by omega) _)
       have hM4:=(HM.out.lower hbr.size).keep (w':=wb.alloc (Obj.cells #[.slice (some ⟨wr.heap.size,0,none⟩) x.length (grownCap wr x.length 0 5)] 25)) (Below.heap_alloc wb _ _ (by omega))
       have hE4:=Ent.snoc HE.out hbw (Nat.le_refl _) hM4 hgrow4 (by rw[htl];exact yf8 hob _) (by rw[htl];exact hown4)
       refine⟨j+1,by omega,by go_num,?_,?_,?_,?_,fun g' hg'=>?_⟩
       ·rw[← ybd (ents ss) j hjn,← hxj]
        exact hE4.turn hturn6
       ·have hHH:=HH.out
        have hHAT:=HAT.out
        rw[hxj] at hown6
        exact put_num hjn (hbS.out) hd hHH hHAT hown6
       ·exact((((hbr.trans (hbb.mono hbr.size)).alloc (by omega) _).grown hgrow4 (by simp;omega) hobase).grown hturn6.grown (by have:=hgrow4.size;simp at this;omega) (fun k hk=>by injection hk with hk;omega))
       ·have h4:=hgrow4.size
        have h5:=hturn6.grown.size
        simp at h4
        omega
       ·have hgg:=HG.out g' hg'
        injection hg' with hg'
        injection hg' with hg' _ _
        subst hg'
        obtain⟨cg,hcg⟩:=hgt
        have hgw:wb.heap[g]?=w1.heap[g]?:=(hbb.block g (by omega)).trans hgg
        have hgne:some g≠(Value.slice A8 j c8).ownBlock:=by
         intro e
         obtain⟨cells,hc⟩:=ydt hob g e.symm
         rw[hgw,hcg] at hc
         injection hc with hc
         injection hc with _ hc _
         exact absurd hc (by decide)
        have h4:=hgrow4.size
        simp at h4
        have k1:=hturn6.grown.block g (by omega) (fun e=>by injection e with e;omega)
        have k2:=hgrow4.block g (by simp;omega) hgne
        exact k1.trans (k2.trans ((Below.heap_alloc wb _ g (by omega)).trans hgw))
      case measure=>simp [intOf];omega
     ·obtain rfl:j=n:=by omega
      have hTE:(ents ss).take j=ents ss:=List.take_of_length_le (by omega)
      rw[hTE] at hE
      have hmk:=yic (P:=Tryz.prog) 152 3 .i64 8 Tryz.underlying152 info3 (by decide) ss.length (by omega)
      have hRM:=yil wr w.heap.size 3 .i64 ss.length hbr.size (by omega)
      have hBM:Below w.heap.size w (wr.alloc (.cells (madeCells #[.int .i64 0] ss.length) 3)):=hbr.alloc hbr.size _
      have hb1:Below wr.heap.size wr (wr.alloc (.cells (madeCells #[.int .i64 0] ss.length) 3)):=(Below.refl _ wr).alloc (Nat.le_refl _) _
      have hEM:=hE.below hb1
      have hMM:MapAt (wr.alloc (.cells (madeCells #[.int .i64 0] ss.length) 3)) w.heap.size (ss.length+j) ss (num ss j):=hM.kept (hb1.block _ hM.lt)
      have hbl:=hM.lt
      rw[← cod_zero] at hRM
      go_upto_region 19 with (fail)
      generalize (wr.alloc (.cells (madeCells #[.int .i64 0] ss.length) 3))=wy at *
      generalize wr.heap.size=g3 at *
      have HX:=Lib.hid hb
      clear hb1 hE hM hmk hcells hrow hgk hbr hE3 hM3 hB3 hb0 e1
      go_wp2
      go_loopw [55] (fun vi wq=>∃ k:Nat,k≤ss.length∧vi=.int .i64 k∧wq.ownsRow w.heap.size 3 1 (.slice (some ⟨g3,0,none⟩) ss.length ss.length) ss.length (nums .i64 (cod ss k))∧Ent wq w.heap.size u8 (ents ss)∧MapAt wq w.heap.size (ss.length+j) ss (num ss j)∧Below w.heap.size w wq) (fun vi _=>ss.length-(intOf vi).toNat)
      case atStart=>exact⟨0,by omega,rfl,hRM,hEM,hMM,hBM⟩
      case round =>
       obtain⟨k,hk,rfl,hR,hE,hM,hbr⟩:=hrel
       by_cases hlt:k<ss.length
       ·obtain⟨ad,A1,c1,rfl,hx0,hc1,hC0⟩:=yhl hr (k:Int) (by omega) (by omega)
        rw[ygi hlt,Int.toNat_natCast] at *
        have hx:=(hbr.cell (World.block_lt_of_cell? w _ hx0)).trans hx0
        have hC:=Kd.C_below hC0 hbr
        clear hx0 hC0
        obtain⟨s,hs⟩:∃ s,s=ss[k]:=⟨_,rfl⟩
        rw[← hs] at hx hC hc1
        have hsm1:s∈ss:=by rw[hs];exact List.getElem_mem hlt
        have hbig:=hsm s hsm1
        have hcv:=Kd.C_string (P:=Tryz.prog) (c:=c1) Tryz.underlying25 Tryz.underlying5 Tryz.underlying9 hC
        obtain⟨⟨D,hown,hhas,hat⟩⟩:=hM
        have hkey:=key_of s (by omega)
        have hd:IsMap D:=hown.isMap
        obtain⟨hcc,hfr⟩:=ymh hR (k:Int) (by omega) (by omega)
        rw[Int.toNat_natCast] at hcc hfr
        have HH:=Lib.hid hhas;have HAT:=Lib.hid hat;have HS:=Lib.hid hs;have HSM:=Lib.hid hsm;have HLT:=Lib.hid hlt;have HR:=Lib.hid hR;have HE:=Lib.hid hE
        have HN:=Lib.hid hn
        clear hhas hat hs hsm hC hr hR hE hb hn
        go_wp2_with (first
         | (at_lookup;refine wpList_lookup_own_int _ rfl _ _ 167 rfl 9 3 .i64 law9 Tryz.underlying167 Tryz.underlying3 (zero3 _) w.heap.size (ss.length+j) D rfl hown _ _ rfl hkey ?_;intro cx hatx hwc)
         | go_in)
        go_roundw
        case rel =>
         have hs2:=HS.out
         have hn:=HN.out
         have hcx:cx=((pos (ents ss) s:Nat):Int):=by
          have h1:=HAT.out s hsm1
          rw[hatx] at h1
          have h2:cx=num ss j s:=by injection h1 with h1;injection h1
          obtain⟨h3,_⟩:=yj9 (ye3 ss) (yd0.2 hsm1)
          rw[h2]
          unfold num
          rw[if_pos (by omega)]
         have hst:=yix HR.out (k:Int) cx
         rw[Int.toNat_natCast] at hst
         obtain⟨hst1,hst2⟩:=hst
         obtain⟨cells,hcells⟩:=ydt HR.out g3 rfl
         have hg3:w.heap.size≤g3:=ydp HR.out g3 rfl
         have hne:w.heap.size≠g3:=by
          intro e
          obtain⟨es,clock,h1,h2⟩:=hown
          rw[e,hcells] at h1
          cases h1
         rw[hcx,hs2,cod_set] at hst1
         refine⟨k+1,by omega,by go_num,by rw[hcx,hs2];exact hst1,HE.out.grown hst2 hcells (by decide) (by decide),?_,hbr.grown hst2 hbr.size (fun k' hk'=>by injection hk' with hk';omega)⟩
         exact MapAt.kept (w:=wr) ⟨⟨D,hown,HH.out,HAT.out⟩⟩ (hst2.block _ hown.lt (fun e=>hne (by injection e)))
        case measure=>simp [intOf];omega
       ·obtain rfl:k=ss.length:=by omega
        have hi:idx ss=(ents ss,ss.map (fun s=>((pos (ents ss) s:Nat):Int)),0):=by
         unfold idx
         rw[if_neg]
         rintro(h|⟨s,hs,h⟩)
         ·omega
         ·have:=hsm s hs;omega
        rw[cod_all] at hR
        clear hM hr hb
        go_wp2
        go_ret3
        rw[hi]
        refine⟨_,_,rfl,hbr,hE,Kd.R_of_own ?_ (fun _ _=>trivial)⟩
        rw[List.length_map]
        exact hR
end Go.Proofs.YteeikgjjgfdjgaaGreat.PK
end
section
namespace Go.Proofs.YteeikgjjgfdjgaaGreat.PK
open Go.RowKit YteeikgjjgfdjgaaGreatW.PrintWords YteeikgjjgfdjgaaGreatW.PrintLast YteeikgjjgfdjgaaGreatW.PrintMore
set_option linter.unusedVariables false
set_option linter.unusedSimpArgs false
theorem Bys.cons {x:Int} {xs:List Int} (h:Bys (x::xs)):(0≤x∧x<256)∧Bys xs:=⟨h x (by simp),fun y hy=>h y (by simp [hy])⟩
theorem Bys.append {a b:List Int} (ha:Bys a) (hb:Bys b):Bys (a++b):=fun x hx=>(List.mem_append.1 hx).elim (ha x) (hb x)
theorem Bys.drop {a:List Int} (ha:Bys a) (n:Nat):Bys (a.drop n):=fun x hx=>ha x (List.mem_of_mem_drop hx)
theorem Bys.take {a:List Int} (ha:Bys a) (n:Nat):Bys (a.take n):=fun x hx=>ha x (List.mem_of_mem_take hx)
def yew:Nat→Nat→List Int
 | 0,n=>[(n:Int)]
 | f+1,n=>if n<128 then [(n:Int)] else ((n%128+128:Nat):Int)::yew f (n / 128)
def vput (n:Nat):List Int:=yew 9 n
theorem or128F:∀ n:Fin 256,Go.bits .or .u8 (n.val:Int) 128=((n.val%128+128:Nat):Int):=by decide +kernel
theorem or128 (n:Nat):Go.bits .or .u8 ((n:Int)%256) 128=((n%128+128:Nat):Int):=by
 have h:=or128F ⟨n%256,by omega⟩
 have e:((n%256:Nat):Int)=(n:Int)%256:=by omega
 rw[← e]
 rw[h]
 simp only
 omega
theorem put_l0:∀ (f n:Nat) (acc:List Int),n<128^(f+1)→acc.length+f+1≤140737488355328→ya0.l0 (f+1) (n:Int) acc=some (acc++yew f n):=by
 intro f
 induction f with
 | zero =>
  intro n acc h hl
  unfold ya0.l0
  rw[if_neg (by omega),if_pos (by omega),show(n:Int)%256=n from by omega]
  rfl
 | succ f ih =>
  intro n acc h hl
  unfold ya0.l0
  by_cases h1:n<128
  ·rw[if_neg (by omega),if_pos (by omega),show(n:Int)%256=n from by omega]
   simp only[yew,if_pos h1]
  ·rw[if_pos (by omega),if_pos (by omega),or128,show(n:Int) / 128=((n / 128:Nat):Int) from by omega,ih (n / 128) _ ?_ (by simp;omega)]
   ·simp only[yew,if_neg h1,List.append_assoc,List.singleton_append]
   ·rw[Nat.pow_succ] at h
    exact Nat.div_lt_of_lt_mul (by rw[Nat.mul_comm];exact h)
theorem yg2 (n:Nat) (h:n<18446744073709551616):ya0.f 10 (n:Int)=some (vput n):=by
 have h1:=put_l0 9 n [] (by omega) (by simp)
 exact h1
theorem yoe:∀ f n,(yew f n).length≤f+1:=by
 intro f
 induction f with
 | zero=>intro n;simp [yew]
 | succ f ih =>
  intro n
  simp only[yew]
  split
  ·simp
  ·have:=ih (n / 128);simp;omega
theorem ybg (n:Nat):(vput n).length≤10:=yoe 9 n
theorem vputA_bys:∀ f n,n<128^(f+1)→Bys (yew f n):=by
 intro f
 induction f with
 | zero=>intro n h x hx;simp [yew] at hx;omega
 | succ f ih =>
  intro n h x hx
  simp only[yew] at hx
  split at hx
  ·simp at hx;omega
  ·rcases List.mem_cons.1 hx with rfl|hx
   ·omega
   ·refine ih (n / 128) ?_ x hx
    rw[Nat.pow_succ] at h
    exact Nat.div_lt_of_lt_mul (by rw[Nat.mul_comm];exact h)
theorem yep (n:Nat) (h:n<18446744073709551616):Bys (vput n):=vputA_bys 9 n (by omega)
def vgo:List Int→Nat→Nat→Nat×Nat×Int
 | [],_,_=>(0,0,2)
 | c::cs,i,u=>if i=9∧1<c then (0,0,20) else if 128≤c then vgo cs (i+1) (u+c.toNat%128*128^i) else if c=0∧0<i then (0,0,5) else (u+c.toNat*128^i,i+1,0)
def vget (l:List Int) (p:Nat):Nat×Nat×Int:=((vgo (l.drop p) 0 0).1,if (vgo (l.drop p) 0 0).2.2=0 then p+(vgo (l.drop p) 0 0).2.1 else 0,(vgo (l.drop p) 0 0).2.2)
theorem pow128 (i:Nat):128^i=2^(7*i):=by rw[show(128:Nat)=2^7 from rfl,← Nat.pow_mul]
theorem ylo {i:Nat} {c:Nat} (hi:i≤9) (hc:c<128) (h9:i=9→c≤1):c*128^i<18446744073709551616:=by
 by_cases h:i=9
 ·subst h
  have:=h9 rfl
  have h2:c*128^9≤1*128^9:=Nat.mul_le_mul_right _ this
  omega
 ·have h1:128^i≤128^8:=Nat.pow_le_pow_right (by decide) (by omega)
  have h2:c*128^i≤127*128^8:=Nat.mul_le_mul (by omega) h1
  omega
theorem get_or {c:Int} (hc:0≤c∧c<256) {i u:Nat} (hi:i≤9) (hu:u<128^i) (h9:i=9→c≤1) :
  Go.bits .or .u64 (u:Int) (shl .u64 (IntKind.u64.wrap (Go.bits .and .u8 c 127)) ((7*i:Nat):Int))=((u+c.toNat%128*128^i:Nat):Int):=by
 obtain⟨d,rfl⟩:=Int.eq_ofNat_of_zero_le hc.1
 have e1:Go.bits .and .u8 (d:Int) 127=(d:Int)%128:=by
  have:=bits_mask .u8 8 (by decide) wraps_u8 7 (by decide) (d:Int) (by omega) (by omega)
  simpa using this
 have hd:=ylo hi (c:=d%128) (by omega) (fun h=>by have:=h9 h;omega)
 have hu9:u<18446744073709551616:=Nat.lt_of_lt_of_le hu (Nat.le_trans (Nat.pow_le_pow_right (by decide) hi) (by decide))
 have e2:IntKind.u64.wrap ((d:Int)%128)=((d%128:Nat):Int):=by rw[IntKind.wrap_u64];omega
 have e3:shl .u64 ((d%128:Nat):Int) ((7*i:Nat):Int)=((d%128*128^i:Nat):Int):=by
  unfold shl
  rw[show min ((7*i:Nat):Int).toNat IntKind.u64.bits=7*i from by simp [IntKind.bits];omega,show((d%128:Nat):Int)*2^(7*i)=((d%128*128^i:Nat):Int) from by rw[pow128];simp]
  exact wraps_u64 _ (by omega) (by omega)
 rw[e1,e2,e3,bits_join_low .u64 64 (by decide) wraps_u64 (7*i) _ _ (by omega) ?_ (by omega) (by omega) ?_ (by omega)]
 ·simp only[Int.toNat_natCast]
  omega
 ·rw[pow128] at hu
  exact_mod_cast hu
 ·rw[pow128]
  have:(d%128*2^(7*i))%2^(7*i)=0:=Nat.mul_mod_left _ _
  exact_mod_cast this
theorem yii {l cs:List Int} {p:Nat} {c:Int} (h:l.drop p=c::cs):∃ hp:p<l.length,l[p]=c∧l.drop (p+1)=cs:=by
 have hp:p<l.length:=by
  rcases Nat.lt_or_ge p l.length with h1|h1
  ·exact h1
  ·rw[List.drop_of_length_le h1] at h;cases h
 rw[List.drop_eq_getElem_cons hp] at h
 exact⟨hp,(List.cons.inj h).1,(List.cons.inj h).2⟩
theorem get_l0 (l:List Int) (p:Nat) (hb:Bys l) (hl:l.length<1152921504606846976) (hp:p≤l.length):∀ (cs:List Int) (i u:Nat),l.drop (p+i)=cs→p+i≤l.length→i≤9→u<128^i →
  yaw.l0 (2*cs.length+2) l (p:Int) (u:Int) (i:Int)=some (((vgo cs i u).1:Int),((if (vgo cs i u).2.2=0 then p+(vgo cs i u).2.1 else 0:Nat):Int),(vgo cs i u).2.2):=by
 intro cs
 induction cs with
 | nil =>
  intro i u hd hpi hi hu
  have:l.length≤p+i:=by
   have:=congrArg List.length hd
   simp at this;omega
  unfold yaw.l0
  rw[w64 (by omega) (by omega),if_pos (by omega)]
  rfl
 | cons c cs ih =>
  intro i u hd hpi hi hu
  obtain⟨hlt,hc,hd'⟩:=yii hd
  have hcb:=hb c (by rw[← hc];exact List.getElem_mem hlt)
  have hrec:=ih (i+1) (u+c.toNat%128*128^i) (by rw[← hd'];congr 1) (by omega)
  rw[show 2*(c::cs).length+2=(2*cs.length+2)+1+1 from by simp;omega]
  unfold yaw.l0
  rw[w64 (by omega) (by omega),if_neg (by omega),show wrap64 ((p:Int)+i)=((p+i:Nat):Int) from by rw[w64 (by omega) (by omega)];omega,if_pos (by omega),if_pos (by omega),ybj hlt,hc]
  have hj:∀ q:Bool,q=decide (i=9∧1<c)→yaw.j2 ((2*cs.length+2)+1) l (p:Int) (u:Int) (i:Int) c q=some (((vgo (c::cs) i u).1:Int),((if (vgo (c::cs) i u).2.2=0 then p+(vgo (c::cs) i u).2.1 else 0:Nat):Int),(vgo (c::cs) i u).2.2):=by
   rintro q rfl
   unfold yaw.j2
   by_cases h9:i=9∧1<c
   ·rw[if_pos (by simp [h9])]
    simp only[vgo,if_pos h9]
    rfl
   ·rw[if_neg (by simpa using h9)]
    have h9':i=9→c≤1:=fun h=>by omega
    have e4:IntKind.u64.wrap (wrap64 (7*(i:Int)))=((7*i:Nat):Int):=by rw[w64 (by omega) (by omega),IntKind.wrap_u64];omega
    have e6:wrap64 (((p+i:Nat):Int)+1)=((p+(i+1):Nat):Int):=by rw[w64 (by omega) (by omega)];omega
    rw[e4,if_pos (by omega),get_or hcb hi hu h9']
    by_cases h1:128≤c
    ·rw[if_pos (by omega),w64s i (by omega),hrec (by omega) ?_]
     ·simp only[vgo,if_neg h9,if_pos h1]
     ·rw[Nat.pow_succ]
      have:c.toNat%128*128^i≤127*128^i:=Nat.mul_le_mul_right _ (by omega)
      omega
    ·have e5:c.toNat%128=c.toNat:=by omega
     rw[if_neg (by omega),show wrap64 ((p:Int)+i)=((p+i:Nat):Int) from by rw[w64 (by omega) (by omega)];omega,e6,e5]
     simp only[vgo,if_neg h9,if_neg h1]
     by_cases h0:c=0
     ·rw[if_pos h0]
      by_cases h2:0<i
      ·rw[if_pos (by omega),if_pos ⟨h0,h2⟩];rfl
      ·rw[if_neg (by omega),if_neg (by omega)];rfl
     ·rw[if_neg h0,if_neg (by omega)];rfl
  by_cases h9:i=9
  ·rw[if_pos (by omega)]
   exact hj _ (by simp [h9])
  ·rw[if_neg (by omega)]
   exact hj _ (by simp [h9])
theorem get_law (l:List Int) (p:Nat) (hb:Bys l) (hl:l.length<1152921504606846976) (hp:p≤l.length):yaw.f (2*(l.drop p).length+3) l (p:Int)=some (((vget l p).1:Int),((vget l p).2.1:Int),(vget l p).2.2):=by
 unfold yaw.f
 rw[if_neg (by omega),show 2*(l.drop p).length+3=(2*(l.drop p).length+2)+1 from rfl,yaw.j0,if_neg (by simp;omega)]
 exact get_l0 l p hb hl hp (l.drop p) 0 0 (by rfl) (by omega) (by omega) (by decide)
theorem vgo_used:∀ (cs:List Int) (i u v t:Nat),Bys cs→i≤9→vgo cs i u=(v,t,0) →
  ∃ m,v=u+m*128^i∧i<t∧t-i≤cs.length∧cs.take (t-i)=yew (9-i) m∧(0<i→m≠0):=by
 intro cs
 induction cs with
 | nil=>intro i u v t hb hi h;simp [vgo] at h
 | cons c cs ih =>
  intro i u v t hb hi h
  obtain⟨hc,hb'⟩:=hb.cons
  simp only[vgo] at h
  split at h
  ·simp at h
  ·rename_i h9
   split at h
   ·rename_i h1
    obtain⟨m,h2,h3,h4,h5,h6⟩:=ih (i+1) _ v t hb' (by omega) h
    have hm:=h6 (by omega)
    have e1:(c.toNat%128+128*m) / 128=m:=by omega
    refine⟨c.toNat%128+128*m,?_,by omega,by simp;omega,?_,fun _=>by omega⟩
    ·rw[h2,Nat.pow_succ,Nat.add_mul,Nat.add_assoc]
     congr 2
     rw[Nat.mul_comm 128 m,Nat.mul_assoc,Nat.mul_comm 128 (128^i)]
    ·rw[show 9-i=(9-(i+1))+1 from by omega,show t-i=(t-(i+1))+1 from by omega]
     simp only[yew,List.take_succ_cons]
     rw[if_neg (by omega),e1,h5]
     congr 1
     omega
   ·rename_i h1
    split at h
    ·simp at h
    ·rename_i h0
     simp only[Prod.mk.injEq] at h
     obtain⟨h2,h3,_⟩:=h
     refine⟨c.toNat,h2.symm,by omega,by simp;omega,?_,fun h=>by omega⟩
     subst h3
     rw[show i+1-i=1 from by omega]
     simp only[List.take_succ_cons,List.take_zero]
     cases (9-i) with
     | zero=>simp only[yew];congr 1;omega
     | succ f =>
      simp only[yew]
      rw[if_pos (by omega)]
      congr 1
      omega
theorem yef {l:List Int} {p v q:Nat} (hb:Bys l) (h:vget l p=(v,q,0)):p<q∧q≤l.length∧l.drop p=vput v++l.drop q:=by
 unfold vget at h
 rcases hv:vgo (l.drop p) 0 0 with ⟨v1,t,e⟩
 rw[hv] at h
 simp only[Prod.mk.injEq] at h
 obtain⟨h1,h2,h3⟩:=h
 subst h1 h3
 rw[if_pos rfl] at h2
 obtain⟨m,k1,k2,k3,k4,_⟩:=vgo_used _ 0 0 v1 t (hb.drop p) (by omega) hv
 rw[List.length_drop] at k3
 have e1:v1=m:=by simp at k1;exact k1
 subst e1
 refine⟨by omega,by omega,?_⟩
 rw[← h2,← List.drop_drop]
 rw[show vput v1=(l.drop p).take t from k4.symm,List.take_append_drop]
theorem yqp (n:Nat) (h:n<16384):vput n=if n<128 then [(n:Int)] else [((n%128+128:Nat):Int),((n / 128:Nat):Int)]:=by
 unfold vput
 rw[show(9:Nat)=8+1 from rfl,yew]
 split
 ·rfl
 ·rw[show(8:Nat)=7+1 from rfl,yew,if_pos (by omega)]
theorem vgo_vput (n:Nat) (h:n<16384) (rest:List Int):vgo (vput n++rest) 0 0=(n,(vput n).length,0):=by
 rw[yqp n h]
 split
 ·rename_i h1
  rw[List.singleton_append,vgo,if_neg (by omega),if_neg (by omega),if_neg (by omega)]
  simp
 ·rename_i h1
  rw[List.cons_append,List.cons_append,List.nil_append,vgo,if_neg (by omega),if_pos (by omega),vgo,if_neg (by omega),if_neg (by omega),if_neg (by omega)]
  simp
  omega
theorem ykg {l rest:List Int} {p n:Nat} (h:n<16384) (hl:l.drop p=vput n++rest):vget l p=(n,p+(vput n).length,0):=by
 unfold vget
 rw[hl,vgo_vput n h]
 simp
end Go.Proofs.YteeikgjjgfdjgaaGreat.PK
end
