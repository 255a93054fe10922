/-
  Parts of the proof: Bt, Ca, Cr, Cs, Ct.
-/
import Derived.Test.YteeikgjjgfdjgaaGreatS15
import Derived.Test.YteeikgjjgfdjgaaGreatS5
import Derived.Test.YteeikgjjgfdjgaaGreatS6
import Derived.Test.YteeikgjjgfdjgaaGreatS8
import Derived.Test.YteeikgjjgfdjgaaGreatS9
import Derived.Test.YteeikgjjgfdjgaaGreatS7
import Derived.Lib.Zigzag
import Derived.Laws.BitsAllLaws
import Derived.Test.YteeikgjjgfdjgaaGreatS14
import Derived.Test.YteeikgjjgfdjgaaGreatS12
import Derived.Test.YteeikgjjgfdjgaaGreatS13
section
namespace Go.Proofs.YteeikgjjgfdjgaaGreat.PK
open Go.RowKit
set_option linter.unusedVariables false
set_option linter.unusedSimpArgs false
theorem there_mem {cs:List Cel} {c:Cel}:c ∈ there cs ↔ c ∈ cs ∧ c.f0 = false:=by unfold there;simp
theorem marks_fit (cs:List Cel):Fit 1 (cs.map markC):=by
 intro u hu
 obtain ⟨c,_,rfl⟩:=List.mem_map.1 hu
 unfold markC
 split <;> decide
theorem widS_one {us:List Int} (h:Fit 1 us) (h1:(1:Int) ∈ us):widS us ≠ 0:=by
 intro e
 have hf:=(widS_fit (w:=0) (Fit.u64 (by decide) h) (by decide)).1 (by omega)
 have:=(hf 1 h1).2
 exact absurd this (by decide)
theorem widS_zero {us:List Int} (h:Fit 1 us) (h1:widS us ≠ 0):(1:Int) ∈ us:=by
 refine Decidable.byContradiction fun hn=>h1 ?_
 have:Fit 0 us:=by
  intro u hu
  have h2:=h u hu
  have h3:u ≠ 1:=fun e=>hn (e ▸ hu)
  have h4:((2:Int) ^ 1) = 2:=rfl
  have h5:((2:Int) ^ 0) = 1:=rfl
  omega
 have:=(widS_fit (w:=0) (Fit.u64 (by decide) h) (by decide)).2 this
 omega
theorem nulls_fwd {b Y:List Int} {p:Nat} {cs:List Cel} (h:b.drop p = nullsS cs ++ Y):nullsD b p cs.length = (cs.map markC,p + (nullsS cs).length,0):=by
 unfold nullsS at h ⊢
 by_cases hn:∃ c ∈ cs,c.f0 = true
 ·rw [if_pos hn] at h ⊢
  rw [List.cons_append] at h
  obtain ⟨h1,h2,h3⟩:=at_drop h
  have hl:(packS 1 (cs.map markC)).length = (cs.length + 7) / 8:=by rw [packS_length,List.length_map,Nat.one_mul]
  have ht:(b.drop (p + 1)).take ((cs.length + 7) / 8) = packS 1 (cs.map markC):=by rw [h3,List.take_append_of_le_length (by omega),List.take_of_length_le (by omega)]
  have hle:(cs.length + 7) / 8 ≤ b.length - p - 1:=by
   have:=congrArg List.length h3
   rw [List.length_drop,List.length_append,hl] at this
   omega
  have hu:=unpack_pack (marks_fit cs)
  rw [List.length_map] at hu
  have hw:widS (cs.map markC) ≠ 0:=widS_one (marks_fit cs) (by obtain ⟨c,hc,e⟩:=hn;exact List.mem_map.2 ⟨c,hc,by unfold markC;rw [if_pos e]⟩)
  unfold nullsD
  rw [if_neg (by omega),h2,if_neg (by decide),if_neg (by decide),if_neg (by omega),ht,hu]
  simp only
  rw [if_neg (by simp),if_neg hw,List.length_cons,hl]
  rw [Prod.mk.injEq,Prod.mk.injEq]
  exact ⟨rfl,by omega,rfl⟩
 ·rw [if_neg hn] at h ⊢
  rw [List.cons_append] at h
  obtain ⟨h1,h2,h3⟩:=at_drop h
  unfold nullsD
  rw [if_neg (by omega),h2,if_neg (by decide),if_pos rfl]
  rw [Prod.mk.injEq,Prod.mk.injEq]
  refine ⟨?_,rfl,rfl⟩
  refine (List.eq_replicate_iff.2 ⟨by simp,fun u hu=>?_⟩).symm
  obtain ⟨c,hc,rfl⟩:=List.mem_map.1 hu
  unfold markC
  rw [if_neg fun e=>hn ⟨c,hc,e⟩]
theorem nulls_bwd {b:List Int} (hb:Bys b) {p n:Nat} (h:(nullsD b p n).2.2 = 0) :
  (nullsD b p n).1.length = n ∧ (∀ u ∈ (nullsD b p n).1,u = 0 ∨ u = 1) ∧ (nullsD b p n).2.1 ≤ b.length ∧ b.drop p = (if (1:Int) ∈ (nullsD b p n).1 then 1 :: packS 1 (nullsD b p n).1 else [0]) ++ b.drop (nullsD b p n).2.1:=by
 unfold nullsD at h ⊢
 by_cases h1:b.length ≤ p
 ·rw [if_pos h1] at h;exact absurd h (by decide)
 rw [if_neg h1] at h ⊢
 have hp:b.getD p 0 = b[p]:=by rw [List.getD_eq_getElem?_getD,List.getElem?_eq_getElem (by omega),Option.getD_some]
 have hx:=hb b[p] (List.getElem_mem _)
 rw [hp] at h ⊢
 have hdc:b.drop p = b[p] :: b.drop (p + 1):=List.drop_eq_getElem_cons _
 by_cases h2:1 < b[p]
 ·rw [if_pos h2] at h;exact absurd h (by decide)
 rw [if_neg h2] at h ⊢
 by_cases h3:b[p] = 0
 ·rw [if_pos h3]
  refine ⟨by simp,fun u hu=>.inl (List.eq_of_mem_replicate hu),by simp only;omega,?_⟩
  rw [if_neg (fun hm=>absurd (List.eq_of_mem_replicate hm) (by decide)),hdc,h3]
  rfl
 rw [if_neg h3] at h ⊢
 have h1p:b[p] = 1:=by omega
 by_cases h4:b.length - p - 1 < (n + 7) / 8
 ·rw [if_pos h4] at h;exact absurd h (by decide)
 rw [if_neg h4] at h ⊢
 by_cases h5:(unpackS ((b.drop (p + 1)).take ((n + 7) / 8)) 1 n).2 = 0
 rotate_left
 ·rw [if_pos h5] at h;exact absurd h h5
 rw [if_neg (by simpa using h5)] at h ⊢
 by_cases h6:widS (unpackS ((b.drop (p + 1)).take ((n + 7) / 8)) 1 n).1 = 0
 ·rw [if_pos h6] at h;exact absurd h (by decide)
 rw [if_neg h6]
 simp only
 obtain ⟨k1,k2,k3⟩:=pack_unpack ((hb.drop (p + 1)).take ((n + 7) / 8)) (us:=(unpackS ((b.drop (p + 1)).take ((n + 7) / 8)) 1 n).1) (Prod.ext rfl h5)
 refine ⟨k1,fun u hu=>?_,by omega,?_⟩
 ·have:=k2 u hu
  have h7:((2:Int) ^ 1) = 2:=rfl
  omega
 ·rw [if_pos (widS_zero k2 h6),k3,hdc,h1p,List.cons_append,show b.drop (p + 1 + (n + 7) / 8) = (b.drop (p + 1)).drop ((n + 7) / 8) from by rw [List.drop_drop],List.take_append_drop]
theorem nullsS_of {cs:List Cel} {us:List Int} (h:cs.map markC = us):nullsS cs = if (1:Int) ∈ us then 1 :: packS 1 us else [0]:=by
 subst h
 unfold nullsS
 have:(∃ c ∈ cs,c.f0 = true) ↔ (1:Int) ∈ cs.map markC:=by
  rw [List.mem_map]
  constructor
  ·rintro ⟨c,hc,e⟩;exact ⟨c,hc,by unfold markC;rw [if_pos e]⟩
  ·rintro ⟨c,hc,e⟩
   refine ⟨c,hc,?_⟩
   unfold markC at e
   split at e
   ·assumption
   ·exact absurd e (by decide)
 by_cases hh:(1:Int) ∈ cs.map markC
 ·rw [if_pos hh,if_pos (this.2 hh)]
 ·rw [if_neg hh,if_neg (fun e=>hh (this.1 e))]
theorem zerosN_marks (cs:List Cel):zerosN (cs.map markC) = (there cs).length:=by
 induction cs with
 | nil=>rfl
 | cons c cs ih =>
  unfold zerosN there at ih ⊢
  rw [List.map_cons,List.count_cons,List.filter_cons,ih]
  unfold markC
  cases c.f0 <;> simp
theorem merge_there {cs:List Cel} (h:∀ c ∈ cs,c.f0 = true → c = nullC):mergeC (cs.map markC) (there cs) = cs:=by
 induction cs with
 | nil=>rfl
 | cons c cs ih =>
  have ih:=ih (fun d hd=>h d (by simp [hd]))
  rw [List.map_cons]
  cases hc:c.f0 with
  | true =>
   have e1:markC c = 1:=by unfold markC;rw [if_pos hc]
   have e2:there (c :: cs) = there cs:=by unfold there;rw [List.filter_cons,if_neg (by simp [hc])]
   rw [e1,e2,mergeC,if_pos rfl,ih,← h c (by simp) hc]
  | false =>
   have e1:markC c = 0:=by unfold markC;rw [if_neg (by simp [hc])]
   have e2:there (c :: cs) = c :: there cs:=by unfold there;rw [List.filter_cons,if_pos (by simp [hc])]
   rw [e1,e2,mergeC,if_neg (by decide),List.headD_cons,List.tail_cons,ih]
theorem there_merge:∀ {us:List Int} {vs:List Cel},(∀ u ∈ us,u = 0 ∨ u = 1) → (∀ v ∈ vs,v.f0 = false) → vs.length = zerosN us → (mergeC us vs).map markC = us ∧ there (mergeC us vs) = vs ∧ (mergeC us vs).length = us.length
 | [],vs,_,_,hl=>by
  have:vs = []:=List.eq_nil_of_length_eq_zero (by rw [hl];rfl)
  subst this
  exact ⟨rfl,rfl,rfl⟩
 | u :: us,vs,hu,hv,hl=>by
  rcases hu u (by simp) with rfl | rfl
  ·cases vs with
   | nil=>simp [zerosN] at hl
   | cons v vs =>
    have h0:=hv v (by simp)
    obtain ⟨i1,i2,i3⟩:=there_merge (us:=us) (vs:=vs) (fun x hx=>hu x (by simp [hx])) (fun x hx=>hv x (by simp [hx])) (by unfold zerosN at hl ⊢;simp at hl;exact hl)
    rw [mergeC,if_neg (by decide),List.headD_cons,List.tail_cons]
    refine ⟨by rw [List.map_cons,i1];unfold markC;rw [if_neg (by simp [h0])],?_,by simp [i3]⟩
    unfold there at i2 ⊢
    rw [List.filter_cons,if_pos (by simp [h0]),i2]
  ·obtain ⟨i1,i2,i3⟩:=there_merge (us:=us) (vs:=vs) (fun x hx=>hu x (by simp [hx])) hv (by unfold zerosN at hl ⊢;simp at hl;exact hl)
   rw [mergeC,if_pos rfl]
   refine ⟨by rw [List.map_cons,i1];rfl,?_,by simp [i3]⟩
   unfold there at i2 ⊢
   rw [List.filter_cons,if_neg (by simp [nullC]),i2]
def Plainly (kind:Int) (c:Cel):Prop:=if kind ≤ 6 then c = ofNum c.f1 ∧ I64 c.f1 else c = ofText c.f2 ∧ c.f2.length ≤ 200
theorem checkC_plainly {kind:Int} {c:Cel} (h:checkC kind c = 0) (ok:CelOk c) (h0:c.f0 = false):Plainly kind c:=by
 unfold checkC at h
 unfold Plainly
 split at h
 ·exact absurd h (by decide)
 rw [if_neg (by simp [h0])] at h
 obtain ⟨f0,f1,f2⟩:=c
 simp only at h0 h ⊢
 subst h0
 by_cases hk:kind ≤ 6
 ·rw [if_pos hk] at h ⊢
  by_cases hl:0 < f2.length
  ·rw [if_pos hl] at h;exact absurd h (by decide)
  ·have:f2 = []:=List.eq_nil_of_length_eq_zero (by omega)
   subst this
   exact ⟨rfl,ok.1⟩
 ·rw [if_neg hk] at h ⊢
  by_cases h1:f1 = 0
  ·subst h1
   rw [if_neg (by simp)] at h
   by_cases hl:200 < f2.length
   ·rw [if_pos hl] at h;exact absurd h (by decide)
   ·exact ⟨rfl,by omega⟩
  ·rw [if_pos h1] at h;exact absurd h (by decide)
theorem checkC_null {kind:Int} {c:Cel} (h:checkC kind c = 0) (h0:c.f0 = true):c = nullC:=by
 unfold checkC at h
 by_cases hk:kind < 1 ∨ 8 < kind
 ·rw [if_pos hk] at h;exact absurd h (by decide)
 rw [if_neg hk,if_pos h0] at h
 obtain ⟨f0,f1,f2⟩:=c
 simp only at h0 h
 subst h0
 split at h
 ·exact absurd h (by decide)
 ·rename_i hn
  have h1:f1 = 0:=Decidable.byContradiction fun e=>hn (.inl e)
  have h2:f2 = []:=List.eq_nil_of_length_eq_zero (Nat.eq_zero_of_not_pos fun e=>hn (.inr e))
  subst h1 h2
  rfl
theorem plainL_fwd {kind:Int} {b:List Int}:∀ (vs:List Cel) (p:Nat) (out:List Cel) (Y:List Int),(∀ c ∈ vs,Plainly kind c) → b.drop p = (vs.map (plainC kind)).flatten ++ Y →
  plainL kind b vs.length p out = (out ++ vs,p + ((vs.map (plainC kind)).flatten).length,0):=by
 intro vs
 induction vs with
 | nil=>intro p out Y _ _;simp [plainL]
 | cons c vs ih =>
  intro p out Y hc hd
  have h0:=hc c (by simp)
  rw [List.map_cons,List.flatten_cons,List.append_assoc] at hd
  rw [List.length_cons,plainL,List.map_cons,List.flatten_cons]
  unfold Plainly at h0
  by_cases hk:kind ≤ 6
  ·rw [if_pos hk] at h0
   obtain ⟨h1,h2⟩:=h0
   have e:plainC kind c = vput (foldN c.f1):=by unfold plainC;rw [if_pos hk]
   rw [e] at hd ⊢
   have g:=vget_put (foldN_lt h2) hd
   rw [g]
   simp only
   rw [if_neg (by simp),if_pos hk,unfold_fold,← h1,ih _ _ Y (fun d hd=>hc d (by simp [hd])) (drop_of hd)]
   simp
   omega
  ·rw [if_neg hk] at h0
   obtain ⟨h1,h2⟩:=h0
   have e:plainC kind c = vput c.f2.length ++ c.f2:=by unfold plainC;rw [if_neg hk]
   rw [e] at hd ⊢
   rw [List.append_assoc] at hd
   have g:=vget_put (by omega) hd
   have hd2:=drop_of hd
   have hle:c.f2.length ≤ b.length - (p + (vput c.f2.length).length):=by
    have:=congrArg List.length hd2
    rw [List.length_drop,List.length_append] at this
    omega
   rw [g]
   simp only
   rw [if_neg (by simp),if_neg hk,if_neg (by omega),if_neg (by omega),hd2,List.take_append_of_le_length (Nat.le_refl _),List.take_of_length_le (Nat.le_refl _),← h1,ih _ _ Y (fun d hd=>hc d (by simp [hd])) (drop_of hd2)]
   simp
   omega
theorem plainL_bwd {kind:Int} {b:List Int} (hb:Bys b):∀ (n p:Nat) (out:List Cel),p ≤ b.length → (plainL kind b n p out).2.2 = 0 →
  ∃ vs,vs.length = n ∧ (∀ c ∈ vs,Plainly kind c ∧ c.f0 = false) ∧ (plainL kind b n p out).1 = out ++ vs ∧ (plainL kind b n p out).2.1 ≤ b.length ∧ b.drop p = (vs.map (plainC kind)).flatten ++ b.drop (plainL kind b n p out).2.1:=by
 intro n
 induction n with
 | zero=>intro p out hp h;exact ⟨[],rfl,fun c hc=>(by cases hc),by simp [plainL],hp,by simp [plainL]⟩
 | succ n ih =>
  intro p out hp h
  rw [plainL] at h ⊢
  rcases hg:vget b p with ⟨u,q,e⟩
  rw [hg] at h
  simp only at h ⊢
  by_cases he:e = 0
  rotate_left
  ·rw [if_pos he] at h;exact absurd h he
  subst he
  rw [if_neg (by simp)] at h ⊢
  obtain ⟨k1,k2,k3⟩:=vget_used hb hg
  have hu:u < 18446744073709551616:=by have:=vget_lt hb (p:=p) (by rw [hg]);rw [hg] at this;exact this
  by_cases hk:kind ≤ 6
  ·rw [if_pos hk] at h ⊢
   obtain ⟨vs,e1,e2,e3,e4,e5⟩:=ih q _ k2 h
   refine ⟨ofNum (unfoldI u) :: vs,by simp [e1],fun c hc=>?_,by rw [e3];simp,e4,?_⟩
   ·rcases List.mem_cons.1 hc with rfl | hc
    ·exact ⟨by unfold Plainly;rw [if_pos hk];exact ⟨rfl,unfoldI_ok hu⟩,rfl⟩
    ·exact e2 c hc
   ·rw [List.map_cons,List.flatten_cons,List.append_assoc,← e5]
    unfold plainC
    rw [if_pos hk]
    show _ = vput (foldN (unfoldI u)) ++ _
    rw [fold_unfold,k3]
  ·rw [if_neg hk] at h ⊢
   by_cases h2:200 < u
   ·rw [if_pos h2] at h;exact absurd h (by decide)
   rw [if_neg h2] at h ⊢
   by_cases h3:b.length - q < u
   ·rw [if_pos h3] at h;exact absurd h (by decide)
   rw [if_neg h3] at h ⊢
   obtain ⟨vs,e1,e2,e3,e4,e5⟩:=ih (q + u) _ (by omega) h
   have hl:((b.drop q).take u).length = u:=by rw [List.length_take,List.length_drop];omega
   refine ⟨ofText ((b.drop q).take u) :: vs,by simp [e1],fun c hc=>?_,by rw [e3];simp,e4,?_⟩
   ·rcases List.mem_cons.1 hc with rfl | hc
    ·exact ⟨by unfold Plainly;rw [if_neg hk];exact ⟨rfl,by show ((b.drop q).take u).length ≤ 200;omega⟩,rfl⟩
    ·exact e2 c hc
   ·rw [List.map_cons,List.flatten_cons,List.append_assoc,← e5]
    unfold plainC
    rw [if_neg hk]
    show _ = (vput ((b.drop q).take u).length ++ (b.drop q).take u) ++ _
    rw [hl,k3,List.append_assoc,← List.drop_drop,List.take_append_drop]
theorem map_ofNum {kind:Int} {vs:List Cel} (hk:kind ≤ 6) (h:∀ c ∈ vs,Plainly kind c):(vs.map (·.f1)).map ofNum = vs:=by
 rw [List.map_map]
 conv=>rhs;rw [← List.map_id vs]
 refine List.map_congr_left fun c hc=>?_
 have:=h c hc
 unfold Plainly at this
 rw [if_pos hk] at this
 exact this.1.symm
theorem map_ofText {kind:Int} {vs:List Cel} (hk:¬ kind ≤ 6) (h:∀ c ∈ vs,Plainly kind c):(vs.map (·.f2)).map ofText = vs:=by
 rw [List.map_map]
 conv=>rhs;rw [← List.map_id vs]
 refine List.map_congr_left fun c hc=>?_
 have:=h c hc
 unfold Plainly at this
 rw [if_neg hk] at this
 exact this.1.symm
theorem asMany_self (l:List Cel) (n:Nat) (h:l.length = n):asMany l 0 n = (l,0):=by
 unfold asMany
 rw [if_neg (by simp),if_neg (by simp [h])]
theorem cells_fwd {kind codec:Int} {cs:List Cel} (hf:fitsC kind codec) (hl:cs.length ≤ 4096) (hc:∀ c ∈ there cs,Plainly kind c) :
  (bodyS kind codec cs).2 = 0 ∧ cellsD kind codec (bodyS kind codec cs).1 (there cs).length = (there cs,0):=by
 have htl:(there cs).length ≤ cs.length:=List.length_filter_le _ _
 have hnl:(numsC cs).length = (there cs).length:=by unfold numsC;rw [List.length_map]
 have hxl:(textsC cs).length = (there cs).length:=by unfold textsC;rw [List.length_map]
 unfold bodyS cellsD
 rcases hf with rfl | ⟨hk,rfl | rfl⟩ | ⟨hk,rfl | rfl⟩
 ·simp only [show ¬ ((1:Int) = 2) by decide,show ¬ ((1:Int) = 3) by decide,show ¬ ((1:Int) = 4) by decide,show ¬ ((1:Int) = 5) by decide,if_false,if_true]
  refine ⟨trivial,?_⟩
  unfold plainD
  have:=plainL_fwd (kind:=kind) (b:=plainS kind cs) (there cs) 0 [] [] hc (by rw [List.append_nil];rfl)
  rw [this]
  simp only
  rw [if_neg (by simp),if_neg (by unfold plainS;omega)]
  rfl
 ·simp only [show ¬ ((2:Int) = 1) by decide,if_false,if_true]
  have hi:∀ v ∈ numsC cs,I64 v:=by
   intro v hv
   obtain ⟨c,hc',rfl⟩:=List.mem_map.1 hv
   have:=hc c hc'
   unfold Plainly at this
   rw [if_pos hk] at this
   exact this.2
  refine ⟨by unfold encRuns;rw [if_pos (by omega)],?_⟩
  rw [dec_encRuns (by omega) hi]
  simp only
  unfold numsC
  rw [map_ofNum hk hc]
  exact asMany_self _ _ rfl
 ·simp only [show ¬ ((3:Int) = 1) by decide,show ¬ ((3:Int) = 2) by decide,if_false,if_true]
  have hi:∀ v ∈ numsC cs,I64 v:=by
   intro v hv
   obtain ⟨c,hc',rfl⟩:=List.mem_map.1 hv
   have:=hc c hc'
   unfold Plainly at this
   rw [if_pos hk] at this
   exact this.2
  refine ⟨by unfold encPk;rw [if_neg (by omega)];split <;> rfl,?_⟩
  rw [dec_encPk (by omega) hi]
  simp only
  unfold numsC
  rw [map_ofNum hk hc]
  exact asMany_self _ _ rfl
 ·simp only [show ¬ ((4:Int) = 1) by decide,show ¬ ((4:Int) = 2) by decide,show ¬ ((4:Int) = 3) by decide,if_false,if_true]
  have hx:∀ s ∈ textsC cs,s.length ≤ 200:=by
   intro v hv
   obtain ⟨c,hc',rfl⟩:=List.mem_map.1 hv
   have:=hc c hc'
   unfold Plainly at this
   rw [if_neg (by omega)] at this
   exact this.2
  have hid:(idx (textsC cs)).2.2 = 0:=by
   unfold idx
   rw [if_neg]
   rintro (h | ⟨s,hs,h⟩)
   ·omega
   ·have:=hx s hs;omega
  refine ⟨by unfold encS;rw [if_pos hid],?_⟩
  rw [dec_enc hid]
  simp only
  unfold textsC
  rw [map_ofText (by omega) hc]
  exact asMany_self _ _ rfl
 ·simp only [show ¬ ((5:Int) = 1) by decide,show ¬ ((5:Int) = 2) by decide,show ¬ ((5:Int) = 3) by decide,show ¬ ((5:Int) = 4) by decide,if_false,if_true]
  have hx:∀ s ∈ textsC cs,s.length ≤ 200:=by
   intro v hv
   obtain ⟨c,hc',rfl⟩:=List.mem_map.1 hv
   have:=hc c hc'
   unfold Plainly at this
   rw [if_neg (by omega)] at this
   exact this.2
  have hid:(encPre (textsC cs)).2 = 0:=by
   unfold encPre
   rw [if_neg]
   rintro (h | ⟨s,hs,h⟩)
   ·omega
   ·have:=hx s hs;omega
  refine ⟨hid,?_⟩
  rw [dec_encPre hid]
  simp only
  unfold textsC
  rw [map_ofText (by omega) hc]
  exact asMany_self _ _ rfl
theorem asMany_ok {l:List Cel} {e:Int} {n:Nat} (h:(asMany l e n).2 = 0):e = 0 ∧ l.length = n ∧ asMany l e n = (l,0):=by
 unfold asMany at h ⊢
 by_cases he:e = 0
 ·rw [if_neg (by simpa using he)] at h ⊢
  by_cases hl:l.length = n
  ·rw [if_neg (by simpa using hl)];exact ⟨he,hl,rfl⟩
  ·rw [if_pos hl] at h;exact absurd h (by decide)
 ·rw [if_pos he] at h;exact absurd h he
theorem map_f1 (l:List Int):(l.map ofNum).map (·.f1) = l:=by rw [List.map_map];exact List.map_id _
theorem map_f2 (l:List (List Int)):(l.map ofText).map (·.f2) = l:=by rw [List.map_map];exact List.map_id _
theorem cells_bwd {kind codec:Int} {b:List Int} (hb:Bys b) {n:Nat} (hf:fitsC kind codec) (h:(cellsD kind codec b n).2 = 0) :
  (cellsD kind codec b n).1.length = n ∧ (∀ c ∈ (cellsD kind codec b n).1,c.f0 = false) ∧ ∀ cs:List Cel,there cs = (cellsD kind codec b n).1 → bodyS kind codec cs = (b,0):=by
 unfold cellsD at h ⊢
 rcases hf with rfl | ⟨hk,rfl | rfl⟩ | ⟨hk,rfl | rfl⟩
 ·simp only [if_true] at h ⊢
  unfold plainD at h ⊢
  by_cases h1:(plainL kind b n 0 []).2.2 = 0
  rotate_left
  ·rw [if_pos h1] at h;exact absurd h h1
  rw [if_neg (by simpa using h1)] at h ⊢
  by_cases h2:(plainL kind b n 0 []).2.1 < b.length
  ·rw [if_pos h2] at h;exact absurd h (by decide)
  rw [if_neg h2]
  simp only
  obtain ⟨vs,e1,e2,e3,e4,e5⟩:=plainL_bwd hb n 0 [] (by omega) h1
  rw [List.nil_append] at e3
  rw [e3]
  refine ⟨e1,fun c hc=>(e2 c hc).2,fun cs hcs=>?_⟩
  unfold bodyS
  simp only [show ¬ ((1:Int) = 2) by decide,show ¬ ((1:Int) = 3) by decide,show ¬ ((1:Int) = 4) by decide,show ¬ ((1:Int) = 5) by decide,if_false]
  rw [Prod.mk.injEq]
  refine ⟨?_,rfl⟩
  unfold plainS
  rw [hcs]
  have e6:b.drop 0 = b:=rfl
  rw [e6,List.drop_eq_nil_of_le (show b.length ≤ (plainL kind b n 0 []).2.1 by omega),List.append_nil] at e5
  exact e5.symm
 ·simp only [show ¬ ((2:Int) = 1) by decide,if_false,if_true] at h ⊢
  obtain ⟨h1,h2,h3⟩:=asMany_ok h
  rw [h3]
  refine ⟨h2,fun c hc=>by obtain ⟨v,_,rfl⟩:=List.mem_map.1 hc;rfl,fun cs hcs=>?_⟩
  unfold bodyS numsC
  rw [if_pos rfl,hcs]
  simp only
  rw [map_f1]
  exact (encRuns_dec hb h1).1
 ·simp only [show ¬ ((3:Int) = 1) by decide,show ¬ ((3:Int) = 2) by decide,if_false,if_true] at h ⊢
  obtain ⟨h1,h2,h3⟩:=asMany_ok h
  rw [h3]
  refine ⟨h2,fun c hc=>by obtain ⟨v,_,rfl⟩:=List.mem_map.1 hc;rfl,fun cs hcs=>?_⟩
  unfold bodyS numsC
  rw [if_neg (by decide),if_pos rfl,hcs]
  simp only
  rw [map_f1]
  exact (encPk_dec hb h1).1
 ·simp only [show ¬ ((4:Int) = 1) by decide,show ¬ ((4:Int) = 2) by decide,show ¬ ((4:Int) = 3) by decide,if_false,if_true] at h ⊢
  obtain ⟨h1,h2,h3⟩:=asMany_ok h
  rw [h3]
  refine ⟨h2,fun c hc=>by obtain ⟨v,_,rfl⟩:=List.mem_map.1 hc;rfl,fun cs hcs=>?_⟩
  unfold bodyS textsC
  rw [if_neg (by decide),if_neg (by decide),if_pos rfl,hcs]
  simp only
  rw [map_f2]
  exact enc_dec hb h1
 ·simp only [show ¬ ((5:Int) = 1) by decide,show ¬ ((5:Int) = 2) by decide,show ¬ ((5:Int) = 3) by decide,show ¬ ((5:Int) = 4) by decide,if_false] at h ⊢
  obtain ⟨h1,h2,h3⟩:=asMany_ok h
  rw [h3]
  refine ⟨h2,fun c hc=>by obtain ⟨v,_,rfl⟩:=List.mem_map.1 hc;rfl,fun cs hcs=>?_⟩
  unfold bodyS textsC
  rw [if_neg (by decide),if_neg (by decide),if_neg (by decide),if_pos rfl,hcs]
  simp only
  rw [map_f2]
  exact (encPre_dec hb h1).1
theorem encBlk_ok {kind codec:Int} {cs:List Cel} (h:(encBlk kind codec cs).2 = 0) :
  GoodKind kind ∧ fitsC kind codec ∧ checkCs kind cs = 0 ∧ (bodyS kind codec cs).2 = 0 ∧ (headS codec cs).length + (bodyS kind codec cs).1.length + 4 ≤ 65000 ∧ (encBlk kind codec cs) = (sealS (headS codec cs ++ (bodyS kind codec cs).1),0) ∧ writeS kind codec cs = encBlk kind codec cs:=by
 unfold encBlk at h ⊢
 by_cases h1:kind < 1 ∨ 8 < kind
 ·rw [if_pos h1] at h;exact absurd h (by decide)
 rw [if_neg h1] at h ⊢
 by_cases h2:fitsC kind codec
 rotate_left
 ·rw [if_pos h2] at h;exact absurd h (by decide)
 rw [if_neg (by simpa using h2)] at h ⊢
 by_cases h3:checkCs kind cs = 0
 rotate_left
 ·rw [if_pos h3] at h;exact absurd h h3
 rw [if_neg (by simpa using h3)] at h ⊢
 unfold writeS at h ⊢
 by_cases h4:(bodyS kind codec cs).2 = 0
 rotate_left
 ·rw [if_pos h4] at h;exact absurd h h4
 rw [if_neg (by simpa using h4)] at h ⊢
 by_cases h5:65000 < (headS codec cs).length + (bodyS kind codec cs).1.length + 4
 ·rw [if_pos h5] at h;exact absurd h (by decide)
 rw [if_neg h5]
 exact ⟨⟨by omega,by omega⟩,h2,h3,h4,by omega,rfl,rfl⟩
theorem dec_encBlk {kind codec:Int} {cs:List Cel} (hok:∀ c ∈ cs,CelOk c) (h:(encBlk kind codec cs).2 = 0):decBlk kind (encBlk kind codec cs).1 = (cs,0):=by
 obtain ⟨hk,hf,hc,hb,hl,he,_⟩:=encBlk_ok h
 obtain ⟨hcl,hcc⟩:=checkCs_zero.1 hc
 rw [he]
 simp only
 have hlen:(headS codec cs ++ (bodyS kind codec cs).1).length + 4 ≤ 65000:=by rw [List.length_append];exact hl
 unfold decBlk
 rw [if_neg (by unfold GoodKind at hk;omega),if_neg (by rw [sealS_length];omega),if_neg (by rw [sealed_seal];decide)]
 have ht:(sealS (headS codec cs ++ (bodyS kind codec cs).1)).take ((sealS (headS codec cs ++ (bodyS kind codec cs).1)).length - 4) = headS codec cs ++ (bodyS kind codec cs).1:=by
  rw [sealS_length,Nat.add_sub_cancel]
  unfold sealS
  rw [List.take_append_of_le_length (Nat.le_refl _),List.take_of_length_le (Nat.le_refl _)]
 rw [ht]
 generalize hB:headS codec cs ++ (bodyS kind codec cs).1 = B
 have hd0:B.drop 0 = codec :: (vput cs.length ++ (nullsS cs ++ (bodyS kind codec cs).1)):=by rw [← hB];unfold headS;simp
 obtain ⟨k1,k2,k3⟩:=at_drop hd0
 have g:=vget_put (by omega) k3
 have hd1:=drop_of k3
 have hn:=nulls_fwd hd1
 have hd2:=drop_of hd1
 obtain ⟨_,hcd⟩:=cells_fwd hf hcl (fun c hc=>checkC_plainly (hcc c (there_mem.1 hc).1) (hok c (there_mem.1 hc).1) (there_mem.1 hc).2)
 unfold decIn
 rw [if_neg (by omega),k2,if_neg (by simpa using hf),Nat.zero_add] at *
 rw [g]
 simp only
 rw [if_neg (by simp),if_neg (by omega),hn]
 simp only
 rw [if_neg (by simp),hd2,zerosN_marks,hcd]
 simp only
 rw [if_neg (by simp),merge_there (fun c hc h0=>checkC_null (hcc c hc) h0),if_neg (by simpa using hc)]
theorem decBlk_ok {kind:Int} {b:List Int} (hb:Bys b) (h:(decBlk kind b).2 = 0):encBlk kind (b.getD 0 0) (decBlk kind b).1 = (b,0) ∧ 5 ≤ b.length:=by
 unfold decBlk at h ⊢
 by_cases h1:kind < 1 ∨ 8 < kind
 ·rw [if_pos h1] at h;exact absurd h (by decide)
 rw [if_neg h1] at h ⊢
 by_cases h2:65000 < b.length
 ·rw [if_pos h2] at h;exact absurd h (by decide)
 rw [if_neg h2] at h ⊢
 by_cases h3:sealedS b = false
 ·rw [if_pos h3] at h;exact absurd h (by decide)
 rw [if_neg h3] at h ⊢
 obtain ⟨hl4,hform⟩:=sealed_form (by simpa using h3)
 have hg0:4 < b.length → b.getD 0 0 = (b.take (b.length - 4)).getD 0 0:=by
  intro hlt
  rw [List.getD_eq_getElem?_getD,List.getD_eq_getElem?_getD,List.getElem?_take_of_lt (by omega)]
 generalize hB:b.take (b.length - 4) = B at h hform hg0 ⊢
 have hBb:Bys B:=hB ▸ hb.take _
 have hBl:B.length = b.length - 4:=by rw [← hB,List.length_take];omega
 unfold decIn at h ⊢
 by_cases e1:B.length = 0
 ·rw [if_pos e1] at h;exact absurd h (by decide)
 rw [if_neg e1] at h ⊢
 rw [hg0 (by omega)]
 by_cases e2:fitsC kind (B.getD 0 0)
 rotate_left
 ·rw [if_pos e2] at h;exact absurd h (by decide)
 rw [if_neg (by simpa using e2)] at h ⊢
 rcases hg:vget B 1 with ⟨n,q,e⟩
 rw [hg] at h
 simp only at h ⊢
 by_cases he:e = 0
 rotate_left
 ·rw [if_pos he] at h;exact absurd h he
 subst he
 rw [if_neg (by simp)] at h ⊢
 by_cases e3:4096 < n
 ·rw [if_pos e3] at h;exact absurd h (by decide)
 rw [if_neg e3] at h ⊢
 by_cases e4:(nullsD B q n).2.2 = 0
 rotate_left
 ·rw [if_pos e4] at h;exact absurd h e4
 rw [if_neg (by simpa using e4)] at h ⊢
 obtain ⟨n1,n2,n3,n4⟩:=nulls_bwd hBb e4
 generalize hus:(nullsD B q n).1 = us at h n1 n2 n4 ⊢
 generalize ht:(nullsD B q n).2.1 = t at h n3 n4 ⊢
 by_cases e5:(cellsD kind (B.getD 0 0) (B.drop t) (zerosN us)).2 = 0
 rotate_left
 ·rw [if_pos e5] at h;exact absurd h e5
 rw [if_neg (by simpa using e5)] at h ⊢
 obtain ⟨c1,c2,c3⟩:=cells_bwd (hBb.drop t) e2 e5
 generalize hvs:(cellsD kind (B.getD 0 0) (B.drop t) (zerosN us)).1 = vs at h c1 c2 c3 ⊢
 obtain ⟨m1,m2,m3⟩:=there_merge n2 c2 c1
 by_cases e6:checkCs kind (mergeC us vs) = 0
 rotate_left
 ·rw [if_pos e6] at h;exact absurd h e6
 rw [if_neg (by simpa using e6)]
 simp only
 have hbody:=c3 _ m2
 have hhead:B = headS (B.getD 0 0) (mergeC us vs) ++ B.drop t:=by
  obtain ⟨k1,k2,k3⟩:=vget_used hBb hg
  unfold headS
  rw [nullsS_of m1,m3,n1,List.cons_append,List.append_assoc,← n4,← k3]
  have:B.drop 0 = B.getD 0 0 :: B.drop 1:=by
   rw [List.drop_eq_getElem_cons (show 0 < B.length by omega),List.getD_eq_getElem?_getD,List.getElem?_eq_getElem (by omega),Option.getD_some]
  exact this
 have hlen:=congrArg List.length hhead
 rw [List.length_append] at hlen
 refine ⟨?_,by omega⟩
 unfold encBlk
 rw [if_neg h1,if_neg (by simpa using e2),if_neg (by simpa using e6)]
 unfold writeS
 rw [hbody]
 simp only
 rw [if_neg (by simp),if_neg (by omega),← hhead,← hform]
end Go.Proofs.YteeikgjjgfdjgaaGreat.PK
end
section
namespace Go.Proofs.YteeikgjjgfdjgaaGreat.PK
open Go.RowKit Go.Proofs.YteeikgjjgfdjgaaGreatW.PrintWords Go.Proofs.YteeikgjjgfdjgaaGreatW.PrintLast Go.Proofs.YteeikgjjgfdjgaaGreatW.PrintMore
set_option linter.unusedVariables false
set_option linter.unusedSimpArgs false
theorem xor_zero_u64 (a:Nat) (ha:a < 18446744073709551616):Go.bits .xor .u64 (a:Int) 0 = (a:Int):=by
 have:=bits_xor_u64_nat a 0 ha (by decide)
 simpa using this
theorem fold_law {v:Int} (h:I64 v):bits_Fold.f v = some ((foldN v:Nat):Int):=by
 obtain ⟨h0,h1⟩:=h
 unfold bits_Fold.f foldN
 congr 1
 by_cases hv:0 ≤ v
 ·rw [if_pos hv]
  have e1:IntKind.u64.wrap (wrap64 (v * 2)) = ((2 * v.toNat:Nat):Int):=by rw [IntKind.wrap_u64];unfold wrap64;omega
  have e2:IntKind.u64.wrap (v / 9223372036854775808) = 0:=by rw [show v / 9223372036854775808 = 0 by omega];decide
  rw [e1,e2,xor_zero_u64 _ (by omega)]
 ·rw [if_neg hv]
  have e1:IntKind.u64.wrap (wrap64 (v * 2)) = (((2 * v + 18446744073709551616).toNat:Nat):Int):=by rw [IntKind.wrap_u64];unfold wrap64;omega
  have e2:IntKind.u64.wrap (v / 9223372036854775808) = ((2 ^ 64 - 1:Nat):Int):=by rw [show v / 9223372036854775808 = -1 by omega];decide
  rw [e1,e2,bits_xor_u64_nat _ _ (by omega) (by decide),Nat.xor_comm,Lib.xor_ones64 _ (by omega)]
  omega
theorem xor_comm_i64 (a b:Int):Go.bits .xor .i64 a b = Go.bits .xor .i64 b a:=by
 show IntKind.i64.wrap ((BitVec.ofInt 64 a ^^^ BitVec.ofInt 64 b).toNat:Int) = IntKind.i64.wrap ((BitVec.ofInt 64 b ^^^ BitVec.ofInt 64 a).toNat:Int)
 rw [BitVec.xor_comm]
theorem xor_zero_i64 (x:Nat) (hx:x < 9223372036854775808):Go.bits .xor .i64 (x:Int) 0 = (x:Int):=by
 show IntKind.i64.wrap ((BitVec.ofInt 64 (x:Int) ^^^ BitVec.ofInt 64 0).toNat:Int) = _
 have h2:(BitVec.ofInt 64 (x:Int)).toNat = x:=by rw [BitVec.ofInt_natCast,BitVec.toNat_ofNat];exact Nat.mod_eq_of_lt (by omega)
 rw [show BitVec.ofInt 64 0 = 0#64 from by decide,BitVec.xor_zero,h2,IntKind.wrap_i64]
 omega
theorem unfold_law {u:Nat} (h:u < 18446744073709551616):bits_Unfold.f (u:Int) = some (unfoldI u):=by
 unfold bits_Unfold.f unfoldI
 congr 1
 rw [Lib.u64_and1 _ (by omega) (by omega),w64 (show -9223372036854775808 ≤ (u:Int) / 2 by omega) (by omega)]
 have e:((u:Int) / 2) = ((u / 2:Nat):Int):=by omega
 rw [e]
 by_cases h0:u % 2 = 0
 ·rw [if_pos h0,show ((u:Int) % 2) = 0 by omega,show wrap64 (-wrap64 0) = 0 from by unfold wrap64;decide,xor_zero_i64 _ (by omega)]
 ·rw [if_neg h0,show ((u:Int) % 2) = 1 by omega,show wrap64 (-wrap64 1) = -1 from by unfold wrap64;decide,xor_comm_i64,Lib.i64_not _ (by omega)]
theorem isNum_law (kind:Int):cell_Number.f kind = some (decide (1 ≤ kind ∧ kind ≤ 6)):=by
 unfold cell_Number.f
 by_cases h:kind ≥ 1
 ·rw [if_pos h];simp;omega
 ·rw [if_neg h];simp;omega
theorem number_good {kind:Int} (h:GoodKind kind):cell_Number.f kind = some (decide (kind ≤ 6)):=by
 rw [isNum_law]
 obtain ⟨h1,h2⟩:=h
 simp;omega
theorem known_law (kind:Int):cell_known.f kind = some (decide (1 ≤ kind ∧ kind ≤ 8)):=by
 unfold cell_known.f
 by_cases h:kind ≥ 1
 ·rw [if_pos h];simp;omega
 ·rw [if_neg h];simp;omega
theorem badKind_law (kind:Int):block_badKind.f kind = some (decide (kind < 1 ∨ 8 < kind)):=by
 unfold block_badKind.f
 by_cases h:kind < 1
 ·rw [if_pos h];simp;omega
 ·rw [if_neg h];simp;omega
theorem fits_law {kind:Int} (h:GoodKind kind) (codec:Int):Ev (fun k=>block_fits.f k kind codec) (decide (fitsC kind codec)):=by
 obtain ⟨h1,h2⟩:=h
 have hn:=number_good (kind:=kind) ⟨h1,h2⟩
 by_cases e1:codec = 1
 ·refine Ev.same (fun k=>?_) (Ev.now _)
  unfold block_fits.f
  rw [if_pos e1]
  congr 1
  symm
  exact decide_eq_true (.inl e1)
 have key:∀ b:Bool,(b = true ↔ codec = 2 ∨ codec = 3) → Ev (fun k=>block_fits.j0 k kind codec b) (decide (fitsC kind codec)):=by
  intro b hb
  refine Ev.step (fun k=>?_) (Ev.now _)
  rw [block_fits.j0,hn]
  simp only [Option.bind_some]
  unfold fitsC
  by_cases e:b = true
  ·rw [if_pos e]
   have:=hb.1 e
   congr 1
   refine decide_eq_decide.2 ?_
   omega
  ·rw [if_neg e]
   have e':¬ (codec = 2 ∨ codec = 3):=fun h=>e (hb.2 h)
   by_cases e4:codec = 4
   ·rw [if_pos e4]
    congr 1
    rw [← decide_not]
    refine decide_eq_decide.2 ?_
    omega
   ·rw [if_neg e4]
    by_cases e5:codec = 5
    ·rw [if_pos e5]
     congr 1
     rw [← decide_not]
     refine decide_eq_decide.2 ?_
     omega
    ·rw [if_neg e5]
     congr 1
     symm
     refine decide_eq_false ?_
     omega
 by_cases e2:codec = 2
 ·refine Ev.same (fun k=>?_) (key (codec == 2) (by simp [e2]))
  unfold block_fits.f
  rw [if_neg e1,if_pos e2]
 ·refine Ev.same (fun k=>?_) (key (codec == 3) (by simp [e2]))
  unfold block_fits.f
  rw [if_neg e1,if_neg e2]
theorem wrap_i8 (n:Int):IntKind.i8.wrap n = (n + 128) % 256 - 128:=by
 unfold IntKind.wrap
 simp [IntKind.bits,IntKind.signed]
 omega
theorem wrap_i16 (n:Int):IntKind.i16.wrap n = (n + 32768) % 65536 - 32768:=by
 unfold IntKind.wrap
 simp [IntKind.bits,IntKind.signed]
 omega
theorem wrap_u16c (n:Int):IntKind.u16.wrap n = n % 65536:=by
 unfold IntKind.wrap
 simp [IntKind.bits,IntKind.signed]
theorem holds_law {kind v:Int} (h1:1 ≤ kind) (h2:kind ≤ 6) (hv:I64 v):cell_holds.f kind v = some (decide (leastK kind ≤ v ∧ v ≤ mostK kind)):=by
 obtain ⟨g1,g2⟩:=hv
 unfold cell_holds.f
 rcases (show kind = 1 ∨ kind = 2 ∨ kind = 3 ∨ kind = 4 ∨ kind = 5 ∨ kind = 6 by omega) with rfl | rfl | rfl | rfl | rfl | rfl
 ·rw [if_neg (by decide),if_neg (by decide),if_pos (by unfold wrap64;decide),show shl .i64 1 (IntKind.u64.wrap (wrap64 (1 - 1))) = 1 from by unfold wrap64;decide]
  unfold bits_Narrow.f
  rw [if_pos rfl,Option.bind_some]
  congr 1
  rw [show leastK 1 = -128 from rfl,show mostK 1 = 127 from rfl,wrap_i8]
  rw [Bool.eq_iff_iff,beq_iff_eq,decide_eq_true_eq]
  unfold wrap64
  omega
 ·rw [if_neg (by decide),if_neg (by decide),if_pos (by unfold wrap64;decide),show shl .i64 1 (IntKind.u64.wrap (wrap64 (2 - 1))) = 2 from by unfold wrap64;decide]
  unfold bits_Narrow.f
  rw [if_neg (by decide),if_pos rfl,Option.bind_some]
  congr 1
  rw [show leastK 2 = -32768 from rfl,show mostK 2 = 32767 from rfl,wrap_i16]
  rw [Bool.eq_iff_iff,beq_iff_eq,decide_eq_true_eq]
  unfold wrap64
  omega
 ·rw [if_neg (by decide),if_neg (by decide),if_pos (by unfold wrap64;decide),show shl .i64 1 (IntKind.u64.wrap (wrap64 (3 - 1))) = 4 from by unfold wrap64;decide]
  unfold bits_Narrow.f
  rw [if_neg (by decide),if_neg (by decide),if_pos rfl,Option.bind_some]
  congr 1
  rw [show leastK 3 = -2147483648 from rfl,show mostK 3 = 2147483647 from rfl]
  rw [Bool.eq_iff_iff,beq_iff_eq,decide_eq_true_eq]
  unfold wrap64 wrap32
  omega
 ·rw [if_neg (by decide),if_neg (by decide),if_pos (by unfold wrap64;decide),show shl .i64 1 (IntKind.u64.wrap (wrap64 (4 - 1))) = 8 from by unfold wrap64;decide]
  unfold bits_Narrow.f
  rw [if_neg (by decide),if_neg (by decide),if_neg (by decide),if_pos rfl,Option.bind_some]
  congr 1
  rw [show leastK 4 = -9223372036854775808 from rfl,show mostK 4 = 9223372036854775807 from rfl]
  rw [Bool.eq_iff_iff,beq_iff_eq,decide_eq_true_eq]
  omega
 ·rw [if_pos rfl]
  congr 1
  rw [show leastK 5 = 0 from rfl,show mostK 5 = 65535 from rfl,wrap_u16c]
  rw [Bool.eq_iff_iff,beq_iff_eq,decide_eq_true_eq]
  unfold wrap64
  omega
 ·rw [if_neg (by decide),if_pos rfl]
  congr 1
  rw [show leastK 6 = 0 from rfl,show mostK 6 = 1 from rfl]
  rw [Bool.eq_iff_iff,beq_iff_eq,decide_eq_true_eq]
  omega
theorem rdc_at {cs:List Cel} {i:Nat} (h:i < cs.length):rd_T53 cs (i:Int) = cs[i]:=by unfold rd_T53;rw [Int.toNat_natCast,List.getD_eq_getElem?_getD,List.getElem?_eq_getElem h,Option.getD_some]
theorem there_snoc (cs:List Cel) (i:Nat) (h:i < cs.length):there (cs.take (i + 1)) = if cs[i].f0 = true then there (cs.take i) else there (cs.take i) ++ [cs[i]]:=by
 rw [← take_snoc cs i h]
 unfold there
 rw [List.filter_append]
 cases hc:cs[i].f0 <;> simp [hc]
theorem there_take_le (cs:List Cel) (i:Nat):(there (cs.take i)).length ≤ i:=Nat.le_trans (List.length_filter_le _ _) (by rw [List.length_take];omega)
theorem plainC_length {kind:Int} {c:Cel} (h:Plainly kind c):(plainC kind c).length ≤ 210:=by
 unfold plainC Plainly at *
 split
 ·have:=vput_length (foldN c.f1);omega
 ·rename_i hk
  rw [if_neg hk] at h
  have:=vput_length c.f2.length
  rw [List.length_append]
  omega
theorem plainS_length {kind:Int}:∀ {vs:List Cel},(∀ c ∈ vs,Plainly kind c) → ((vs.map (plainC kind)).flatten).length ≤ 210 * vs.length
 | [],_=>by simp
 | c :: vs,h=>by
  have h1:=plainC_length (h c (by simp))
  have h2:=plainS_length (vs:=vs) (fun d hd=>h d (by simp [hd]))
  rw [List.map_cons,List.flatten_cons,List.length_append,List.length_cons]
  omega
theorem plain_law {kind:Int} (hk:GoodKind kind) (cs:List Cel) (hl:cs.length ≤ 4096) (hc:∀ c ∈ there cs,Plainly kind c):Ev (fun k=>block_plain.f k kind cs) (plainS kind cs):=by
 have hn:=number_good hk
 have key:∀ n i:Nat,i + n = cs.length → Ev (fun k=>block_plain.l0 k kind (plainS kind (cs.take i)) cs (cs.length:Int) (i:Int)) (plainS kind cs):=by
  intro n
  induction n with
  | zero =>
   intro i h
   refine Ev.step (fun k=>?_) (Ev.now _)
   rw [block_plain.l0,if_neg (by omega),List.take_of_length_le (by omega)]
  | succ n ih =>
   intro i h
   have hi:i < cs.length:=by omega
   have hle:=there_take_le cs i
   have hs:=there_snoc cs i hi
   have hsub:∀ c ∈ there (cs.take i),Plainly kind c:=fun c hm=>hc c (there_mem.2 ⟨List.mem_of_mem_take (there_mem.1 hm).1,(there_mem.1 hm).2⟩)
   have hlen:=plainS_length hsub
   have hrec:=ih (i + 1) (by omega)
   by_cases h0:cs[i].f0 = true
   ·refine Ev.step (fun k=>?_) hrec
    rw [block_plain.l0,if_pos (by omega),if_pos (by omega),if_pos (by omega),rdc_at hi,if_pos h0,w64s i (by omega)]
    unfold plainS
    rw [hs,if_pos h0]
   ·have hp:=hc cs[i] (there_mem.2 ⟨List.getElem_mem hi,by simpa using h0⟩)
    have hpl:=plainC_length hp
    have e:plainS kind (cs.take (i + 1)) = plainS kind (cs.take i) ++ plainC kind cs[i]:=by unfold plainS;rw [hs,if_neg h0,List.map_append,List.flatten_append];simp
    have hpS:(plainS kind (cs.take i)).length ≤ 210 * (there (cs.take i)).length:=hlen
    rw [e] at hrec
    by_cases hk6:kind ≤ 6
    ·have e2:plainC kind cs[i] = vput (foldN cs[i].f1):=by unfold plainC;rw [if_pos hk6]
     unfold Plainly at hp
     rw [if_pos hk6] at hp
     rw [e2] at hrec hpl
     refine Ev.step (g:=fun k=>(vint_Put.f k ((foldN cs[i].f1:Nat):Int)).bind fun t=>if (plainS kind (cs.take i)).length + t.length < 140737488355328 then block_plain.l0 k kind (plainS kind (cs.take i) ++ t) cs (cs.length:Int) ((i + 1:Nat):Int) else none) (fun k=>?_) (Ev.bind (put_ev _ (foldN_lt hp.2)) ?_)
     ·rw [block_plain.l0,if_pos (by omega),if_pos (by omega),if_pos (by omega),rdc_at hi,if_neg h0,hn,Option.bind_some,if_pos (by simpa using hk6),fold_law hp.2,Option.bind_some,w64s i (by omega)]
     ·exact Ev.same (fun k=>by rw [if_pos (by omega)]) hrec
    ·have e2:plainC kind cs[i] = vput cs[i].f2.length ++ cs[i].f2:=by unfold plainC;rw [if_neg hk6]
     unfold Plainly at hp
     rw [if_neg hk6] at hp
     rw [e2,← List.append_assoc] at hrec
     rw [e2,List.length_append] at hpl
     have hp2:=hp.2
     refine Ev.step (g:=fun k=>(vint_Put.f k ((cs[i].f2.length:Nat):Int)).bind fun t=>if (plainS kind (cs.take i)).length + t.length < 140737488355328 then (some (plainS kind (cs.take i) ++ t)).bind fun y=>if y.length + cs[i].f2.length < 140737488355328 then block_plain.l0 k kind (y ++ cs[i].f2) cs (cs.length:Int) ((i + 1:Nat):Int) else none else none) (fun k=>?_) (Ev.bind (put_ev cs[i].f2.length (by omega)) ?_)
     ·rw [block_plain.l0,if_pos (by omega),if_pos (by omega),if_pos (by omega),rdc_at hi,if_neg h0,hn,Option.bind_some,if_neg (by simpa using hk6),wraps_u64 _ (by omega) (by omega),w64s i (by omega)]
     ·exact Ev.same (fun k=>by rw [if_pos (by omega),Option.bind_some,if_pos (by rw [List.length_append];omega)]) hrec
 exact key cs.length 0 (by omega)
theorem nulls_law (cs:List Cel) (hl:cs.length ≤ 4096):Ev (fun k=>block_nulls.f k cs) (nullsS cs):=by
 have hp:=packS_short 1 (cs.map markC) (by decide) (by rw [List.length_map];exact hl)
 have key:∀ n i:Nat,i + n = cs.length → Ev (fun k=>block_nulls.l0 k ((List.range cs.length).map fun j=>if j < i then markC (cs.getD j nullC) else 0) (if ∃ c ∈ cs.take i,c.f0 = true then 1 else 0) cs (cs.length:Int) (i:Int)) (nullsS cs):=by
  intro n
  induction n with
  | zero =>
   intro i h
   have e1:((List.range cs.length).map fun j=>if j < i then markC (cs.getD j nullC) else 0) = cs.map markC:=by
    apply List.ext_getElem
    ·simp
    ·intro j h1 h2
     simp only [List.getElem_map,List.getElem_range]
     rw [List.length_map] at h2
     rw [if_pos (by omega),List.getD_eq_getElem?_getD,List.getElem?_eq_getElem h2,Option.getD_some]
   rw [e1,List.take_of_length_le (by omega)]
   by_cases hn:∃ c ∈ cs,c.f0 = true
   ·rw [if_pos hn]
    have:=ppack (w:=1) (by decide) (marks_fit cs) (by rw [List.length_map];exact hl)
    refine Ev.step (g:=fun k=>(bits_Pack.f k 1 (cs.map markC)).bind fun bt=>(some ([1]:List Int)).bind fun y=>if y.length + bt.1.length < 140737488355328 then some (y ++ bt.1) else none) (fun k=>?_) (Ev.bind this ?_)
    ·rw [block_nulls.l0,if_neg (by omega),if_neg (by decide)]
    ·refine Ev.same (fun k=>?_) (Ev.now _)
     rw [Option.bind_some,if_pos (by simp;omega)]
     unfold nullsS
     rw [if_pos hn]
     rfl
   ·rw [if_neg hn]
    refine Ev.step (fun k=>?_) (Ev.now _)
    rw [block_nulls.l0,if_neg (by omega),if_pos rfl]
    unfold nullsS
    rw [if_neg hn]
  | succ n ih =>
   intro i h
   have hi:i < cs.length:=by omega
   have hrec:=ih (i + 1) (by omega)
   have ht:=take_snoc cs i hi
   rw [← ht] at hrec
   have hset:((List.range cs.length).map fun j=>if j < i then markC (cs.getD j nullC) else 0).set i (markC cs[i]) = ((List.range cs.length).map fun j=>if j < i + 1 then markC (cs.getD j nullC) else 0):=by
    have:=set_map cs.length i (fun j=>markC (cs.getD j nullC))
    simp only [List.getD_eq_getElem?_getD,List.getElem?_eq_getElem hi,Option.getD_some] at this ⊢
    exact this
   rw [← hset] at hrec
   refine Ev.step (fun k=>?_) hrec
   rw [block_nulls.l0,if_pos (by omega),if_pos (by omega),if_pos (by omega),rdc_at hi,w64s i (by omega)]
   by_cases h0:cs[i].f0 = true
   ·have e1:markC cs[i] = 1:=by unfold markC;rw [if_pos h0]
    rw [if_pos h0,if_pos (by simp;omega),e1,Int.toNat_natCast,if_pos (show ∃ c ∈ cs.take i ++ [cs[i]],c.f0 = true from ⟨cs[i],List.mem_append_right _ (List.mem_singleton_self _),h0⟩)]
   ·have e1:markC cs[i] = 0:=by unfold markC;rw [if_neg h0]
    rw [if_neg h0,e1]
    have e2:((List.range cs.length).map fun j=>if j < i then markC (cs.getD j nullC) else 0).set i 0 = ((List.range cs.length).map fun j=>if j < i then markC (cs.getD j nullC) else 0):=by
     apply List.ext_getElem
     ·simp
     ·intro j h1 h2
      rw [List.getElem_set]
      split
      ·rename_i e;subst e;simp
      ·rfl
    rw [e2]
    have e3:(∃ c ∈ cs.take i ++ [cs[i]],c.f0 = true) ↔ ∃ c ∈ cs.take i,c.f0 = true:=by
     constructor
     ·rintro ⟨c,hc,hc0⟩
      rcases List.mem_append.1 hc with hc | hc
      ·exact ⟨c,hc,hc0⟩
      ·rw [List.mem_singleton.1 hc] at hc0;exact absurd hc0 h0
     ·rintro ⟨c,hc,hc0⟩;exact ⟨c,List.mem_append_left _ hc,hc0⟩
    simp only [e3]
 have h0:=key cs.length 0 (by omega)
 refine Ev.same (fun k=>?_) h0
 unfold block_nulls.f
 rw [if_pos (by omega),if_pos (by rw [Int.toNat_natCast];omega),Int.toNat_natCast]
 congr 1
 ·apply List.ext_getElem
  ·simp
  ·intro j h1 h2;simp
theorem fromNumbers_law (vs:List Int) (e:Int) (hl:vs.length ≤ 4096):Ev (fun k=>block_fromNumbers.f k vs e) (vs.map ofNum,e):=by
 have key:∀ n i:Nat,i + n = vs.length → Ev (fun k=>block_fromNumbers.l0 k e ((vs.take i).map ofNum) vs (vs.length:Int) (i:Int)) (vs.map ofNum,e):=by
  intro n
  induction n with
  | zero =>
   intro i h
   refine Ev.step (fun k=>?_) (Ev.now _)
   rw [block_fromNumbers.l0,if_neg (by omega),List.take_of_length_le (by omega)]
  | succ n ih =>
   intro i h
   have hi:i < vs.length:=by omega
   refine Ev.step (fun k=>?_) (ih (i + 1) (by omega))
   rw [block_fromNumbers.l0,if_pos (by omega),if_pos (by omega),if_pos (by omega),if_pos (by rw [List.length_map,List.length_take];omega),rd_at hi,w64s i (by omega),← take_snoc vs i hi,List.map_append]
   rfl
 exact key vs.length 0 (by omega)
theorem stp_toNat (S:BitVec 32):(stp S).toNat = if S.toNat % 2 = 1 then (S.toNat / 2) ^^^ 2197175160 else S.toNat / 2:=by
 have h0:S.getLsbD 0 = decide (S.toNat % 2 = 1):=by
  show S.toNat.testBit 0 = _
  exact Nat.testBit_zero _
 unfold stp
 rw [h0]
 by_cases h:S.toNat % 2 = 1
 ·rw [if_pos h,decide_eq_true h]
  simp only [if_true]
  rw [BitVec.toNat_xor,BitVec.toNat_ushiftRight,Nat.shiftRight_eq_div_pow]
  rfl
 ·rw [if_neg h,decide_eq_false h]
  simp only [Bool.false_eq_true,if_false]
  rw [BitVec.xor_zero,BitVec.toNat_ushiftRight,Nat.shiftRight_eq_div_pow]
theorem stp_lt (S:BitVec 32):S.toNat < 4294967296:=S.isLt
theorem feed_start (S:BitVec 32) {c:Int} (hc:0 ≤ c ∧ c < 256):Go.bits .xor .u32 (S.toNat:Int) (c % 4294967296) = ((S ^^^ BitVec.ofNat 32 c.toNat).toNat:Int):=by
 rw [show c % 4294967296 = ((c.toNat:Nat):Int) from by omega,u32_xor_nat _ _ (stp_lt S) (by omega),BitVec.toNat_xor,BitVec.toNat_ofNat,Nat.mod_eq_of_lt (by omega)]
theorem rsum_l1 (b:List Int) (i:Nat) (res):∀ (n:Nat) (j:Nat) (S:BitVec 32),j + n = 8 → Ev (fun k=>stoaref03_Sum.l0 k b ((stpN n S).toNat:Int) (wrap64 ((i:Int) + 1))) res → Ev (fun k=>stoaref03_Sum.l1 k b (S.toNat:Int) (i:Int) (j:Int)) res:=by
 intro n
 induction n with
 | zero =>
  intro j S hj h
  refine Ev.step (fun k=>?_) h
  rw [stoaref03_Sum.l1,if_neg (by omega)]
  rfl
 | succ n ih =>
  intro j S hj h
  refine Ev.step (fun k=>?_) (ih (j + 1) (stp S) (by omega) h)
  have hS:=stp_lt S
  rw [stoaref03_Sum.l1,if_pos (by omega),w64s j (by omega),stp_toNat]
  have e1:(Int.tdiv (S.toNat:Int) 2) % 4294967296 = ((S.toNat / 2:Nat):Int):=by
   rw [Int.tdiv_eq_ediv_of_nonneg (by omega)];omega
  have e2:Int.tmod (S.toNat:Int) 2 = ((S.toNat % 2:Nat):Int):=by
   rw [Int.tmod_eq_emod_of_nonneg (by omega)];omega
  rw [e1,e2]
  by_cases h1:S.toNat % 2 = 1
  ·rw [if_pos (by omega),if_pos h1]
   have:=u32_xor_nat (S.toNat / 2) 2197175160 (by omega) (by decide)
   rw [show ((2197175160:Nat):Int) = 2197175160 from rfl] at this
   rw [this]
  ·rw [if_neg (by omega),if_neg h1]
theorem rsum_ev {b:List Int} (hb:Bys b) (hl:b.length ≤ 140737488355328):Ev (fun k=>stoaref03_Sum.f k b) ((sumS b:Nat):Int):=by
 have key:∀ n i:Nat,i + n = b.length → Ev (fun k=>stoaref03_Sum.l0 k b ((crcL ones (b.take i)).toNat:Int) (i:Int)) ((sumS b:Nat):Int):=by
  intro n
  induction n with
  | zero =>
   intro i h
   refine Ev.step (fun k=>?_) (Ev.now _)
   rw [stoaref03_Sum.l0,if_neg (by omega),List.take_of_length_le (by omega)]
   congr 1
   have:=u32_xor_nat (crcL ones b).toNat 4294967295 (stp_lt _) (by decide)
   rw [show ((4294967295:Nat):Int) = 4294967295 from rfl] at this
   rw [this]
   unfold sumS
   rw [BitVec.toNat_xor]
   rfl
  | succ n ih =>
   intro i h
   have hi:i < b.length:=by omega
   have hx:=hb b[i] (List.getElem_mem hi)
   have hrec:=ih (i + 1) (by omega)
   rw [← take_snoc b i hi] at hrec
   have e:crcL ones (b.take i ++ [b[i]]) = stpN 8 (crcL ones (b.take i) ^^^ BitVec.ofNat 32 (b[i]).toNat):=by unfold crcL;rw [List.foldl_append];rfl
   rw [e] at hrec
   refine Ev.step (fun k=>?_) (rsum_l1 b i _ 8 0 (crcL ones (b.take i) ^^^ BitVec.ofNat 32 (b[i]).toNat) (by omega) (by rw [w64s i (by omega)];exact hrec))
   rw [stoaref03_Sum.l0,if_pos (by omega),if_pos (by omega),rd_at hi,feed_start _ hx]
   rfl
 have:=key b.length 0 (by omega)
 exact this
theorem low_ev (v:Nat) (hv:v < 4294967296):Ev (fun k=>stoaref01_Low.f k (v:Int) 4) (digits 4 v):=by
 have hd:∀ x:Nat,IntKind.u64.wrap (Int.tdiv (x:Int) 256) = ((x / 256:Nat):Int) ∨ ¬ x < 4294967296:=by
  intro x
  by_cases hx:x < 4294967296
  ·left
   rw [Int.tdiv_eq_ediv_of_nonneg (by omega),IntKind.wrap_u64];omega
  ·exact .inr hx
 have hm:∀ x:Nat,(Int.tmod (x:Int) 256) % 256 = ((x % 256:Nat):Int):=by intro x;rw [Int.tmod_eq_emod_of_nonneg (by omega)];omega
 have d1:=(hd v).resolve_right (by omega)
 have d2:=(hd (v / 256)).resolve_right (by omega)
 have d3:=(hd (v / 256 / 256)).resolve_right (by omega)
 have d4:=(hd (v / 256 / 256 / 256)).resolve_right (by omega)
 refine ⟨5,fun k hk=>?_⟩
 obtain ⟨m,rfl⟩:∃ m,k = m + 5:=⟨k - 5,by omega⟩
 show stoaref01_Low.f (m + 5) (v:Int) 4 = _
 unfold stoaref01_Low.f
 rw [show m + 5 = (m + 4) + 1 from rfl,stoaref01_Low.l0,if_pos (by decide),if_pos (by decide),d1,hm,show wrap64 (0 + 1) = 1 from by unfold wrap64;decide]
 rw [show m + 4 = (m + 3) + 1 from rfl,stoaref01_Low.l0,if_pos (by decide),if_pos (by simp),d2,hm,show wrap64 (1 + 1) = 2 from by unfold wrap64;decide]
 rw [show m + 3 = (m + 2) + 1 from rfl,stoaref01_Low.l0,if_pos (by decide),if_pos (by simp),d3,hm,show wrap64 (2 + 1) = 3 from by unfold wrap64;decide]
 rw [show m + 2 = (m + 1) + 1 from rfl,stoaref01_Low.l0,if_pos (by decide),if_pos (by simp),d4,hm,show wrap64 (3 + 1) = 4 from by unfold wrap64;decide]
 rw [stoaref01_Low.l0,if_neg (by decide)]
 simp [digits]
theorem rseal_ev {b:List Int} (hb:Bys b) (hl:b.length + 4 ≤ 140737488355328):Ev (fun k=>stoaref03_Seal.f k b) (sealS b):=by
 have hs:=sumS_lt b
 unfold stoaref03_Seal.f
 refine Ev.bind (rsum_ev hb (by omega)) ?_
 rw [wraps_u64 _ (by omega) (by omega)]
 refine Ev.bind (low_ev _ hs) (Ev.bind (cat_ev _ _ (by rw [digits_length];omega)) (Ev.now _))
theorem bitLen_or {a b:Nat} (ha:a < 2 ^ 64) (hb:b < 2 ^ 64):Lib.bitLen (a ||| b) = max (Lib.bitLen a) (Lib.bitLen b):=by
 have hab:a ||| b < 2 ^ 64:=Nat.or_lt_two_pow ha hb
 have h1:=bitLen64 ha
 have h2:=bitLen64 hb
 have key:∀ w,w ≤ 64 → (Lib.bitLen (a ||| b) ≤ w ↔ Lib.bitLen a ≤ w ∧ Lib.bitLen b ≤ w):=by
  intro w hw
  rw [bitLen_fit hab hw,bitLen_fit ha hw,bitLen_fit hb hw]
  exact ⟨fun h=>⟨Nat.lt_of_le_of_lt Nat.left_le_or h,Nat.lt_of_le_of_lt Nat.right_le_or h⟩,fun h=>Nat.or_lt_two_pow h.1 h.2⟩
 have h3:=bitLen64 hab
 apply Nat.le_antisymm
 ·exact (key _ (by omega)).2 ⟨by omega,by omega⟩
 ·have:=(key _ h3).1 (Nat.le_refl _)
  omega
theorem pwidth_ev {us:List Int} (hu:U64s us) (hl:us.length ≤ 4096):Ev (fun k=>bits_Width.f k us) ((widS us:Nat):Int):=by
 have key:∀ n i a:Nat,i + n = us.length → a < 2 ^ 64 → Ev (fun k=>bits_Width.l0 k (a:Int) us (us.length:Int) (i:Int)) ((max (Lib.bitLen a) (widS (us.drop i)):Nat):Int):=by
  intro n
  induction n with
  | zero =>
   intro i a h ha
   refine Ev.step (fun k=>?_) (Ev.now _)
   rw [bits_Width.l0,if_neg (by omega),List.drop_eq_nil_of_le (by omega)]
   unfold bits_Len64.f
   rw [if_pos (by omega),if_pos (by omega),Option.bind_some,Int.toNat_natCast]
   simp [widS]
  | succ n ih =>
   intro i a h ha
   have hi:i < us.length:=by omega
   have hx:=hu us[i] (List.getElem_mem hi)
   have hrec:=ih (i + 1) (a ||| us[i].toNat) (by omega) (Nat.or_lt_two_pow ha (by omega))
   rw [bitLen_or ha (by omega)] at hrec
   rw [List.drop_eq_getElem_cons hi]
   simp only [widS]
   rw [show max (Lib.bitLen a) (max (Lib.bitLen us[i].toNat) (widS (us.drop (i + 1)))) = max (max (Lib.bitLen a) (Lib.bitLen us[i].toNat)) (widS (us.drop (i + 1))) by omega]
   refine Ev.step (fun k=>?_) hrec
   have:Go.bits .or .u64 (a:Int) us[i] = ((a ||| us[i].toNat:Nat):Int):=by
    conv=>lhs;rw [← Int.toNat_of_nonneg hx.1]
    exact bits_or_u64_nat a us[i].toNat (by omega) (by omega)
   rw [bits_Width.l0,if_pos (by omega),if_pos (by omega),if_pos (by omega),rd_at hi,w64s i (by omega),this]
 have:=key us.length 0 0 (by omega) (by decide)
 rw [show Lib.bitLen 0 = 0 from rfl,Nat.zero_max] at this
 exact this
def toR (r:Int × Nat):S150:=⟨r.1,(r.2:Int)⟩
theorem push_last (rs:List (Int × Nat)) (v:Int):∃ r n,push rs v = r ++ [(v,n)]:=by
 unfold push
 cases h:rs.getLast? with
 | none=>exact ⟨[],1,rfl⟩
 | some a =>
  obtain ⟨u,n⟩:=a
  simp only
  split
  ·rename_i e;subst e;exact ⟨_,_,rfl⟩
  ·exact ⟨_,_,rfl⟩
theorem rle_last {vs:List Int} {i:Nat} (h:i < vs.length):∃ r n,rle (vs.take (i + 1)) = r ++ [(vs[i],n)]:=by
 rw [← take_snoc vs i h,rle_snoc]
 exact push_last _ _
theorem set_last {α:Type} (r:List α) (a b:α):(r ++ [a]).set r.length b = r ++ [b]:=by
 rw [List.set_append_right _ _ (Nat.le_refl _),Nat.sub_self];rfl
theorem rdr_last (r:List S150) (a:S150):rd_T150 (r ++ [a]) (r.length:Int) = a:=by
 unfold rd_T150
 rw [Int.toNat_natCast,List.getD_eq_getElem?_getD,List.getElem?_append_right (Nat.le_refl _),Nat.sub_self]
 rfl
theorem wl (n:Nat) (h:n < 4611686018427387904):wrap64 (((n + 1:Nat):Int) - 1) = (n:Int):=by rw [w64 (by omega) (by omega)];omega
theorem split_law (vs:List Int) (hl:vs.length ≤ 4096):Ev (fun k=>runs_Split.f k vs) ((rle vs).map toR,0):=by
 have key:∀ n i:Nat,i + n = vs.length → Ev (fun k=>runs_Split.l0 k vs ((rle (vs.take i)).map toR) vs (vs.length:Int) (i:Int)) ((rle vs).map toR,0):=by
  intro n
  induction n with
  | zero =>
   intro i h
   refine Ev.step (fun k=>?_) (Ev.now _)
   rw [runs_Split.l0,if_neg (by omega),List.take_of_length_le (by omega)]
  | succ n ih =>
   intro i h
   have hi:i < vs.length:=by omega
   have hrl:=rle_length (vs.take i)
   rw [List.length_take] at hrl
   have hrec:=ih (i + 1) (by omega)
   rw [← take_snoc vs i hi,rle_snoc] at hrec
   have fresh:∀ R:List (Int × Nat),R.length ≤ 4096 → push R vs[i] = R ++ [(vs[i],1)] → ∀ k,(if (R.map toR).length < 8796093022208 then ((some (R.map toR ++ [(⟨vs[i],0⟩:S150)])).bind fun y=>(if 0 ≤ (wrap64 ((y.length:Int) - 1)) then (if (wrap64 ((y.length:Int) - 1)) < (y.length:Int) then (runs_Split.l0 k vs (y.set ((wrap64 ((y.length:Int) - 1)):Int).toNat (⟨(rd_T150 y (wrap64 ((y.length:Int) - 1))).f0,wrap64 (((rd_T150 y (wrap64 ((y.length:Int) - 1))).f1) + 1)⟩:S150)) vs (vs.length:Int) (wrap64 ((i:Int) + 1))) else (none)) else (none))) else (none)) = runs_Split.l0 k vs ((push R vs[i]).map toR) vs (vs.length:Int) ((i + 1:Nat):Int):=by
    intro R hR hp k
    have hml:(R.map toR).length = R.length:=List.length_map _
    rw [if_pos (by rw [hml];omega),Option.bind_some,List.length_append,hml,List.length_singleton,wl R.length (by omega),if_pos (by omega),if_pos (by omega),Int.toNat_natCast,← hml,set_last,rdr_last,hp,List.map_append,w64s i (by omega),show wrap64 ((0:Int) + 1) = 1 from by unfold wrap64;decide]
    rfl
   by_cases h0:i = 0
   ·subst h0
    refine Ev.step (fun k=>?_) hrec
    rw [runs_Split.l0,if_pos (by omega),if_pos (by omega),if_pos (by omega),if_pos (show ((0:Nat):Int) = 0 from rfl),rd_at hi]
    exact fresh (rle (vs.take 0)) (by simp [rle]) rfl k
   ·obtain ⟨j,rfl⟩:∃ j,i = j + 1:=⟨i - 1,by omega⟩
    obtain ⟨r,m,hr⟩:=rle_last (vs:=vs) (i:=j) (by omega)
    have hm:=rle_mem (vs:=vs.take (j + 1)) (r:=(vs[j],m)) (by rw [hr];simp)
    rw [List.length_take] at hm
    rw [hr] at hrec hrl
    refine Ev.step (fun k=>?_) hrec
    rw [hr]
    rw [runs_Split.l0,if_pos (by omega),if_pos (by omega),if_pos (by omega),if_neg (by omega),rd_at hi,wl j (by omega),if_pos (by omega),if_pos (by omega),rd_at (show j < vs.length by omega)]
    by_cases he:vs[j + 1] = vs[j]
    ·rw [if_pos he]
     have hml:((r ++ [(vs[j],m)]).map toR).length = (r.map toR).length + 1:=by simp
     have hrr:(r.map toR).length ≤ 4096:=by rw [List.length_append] at hrl;simp at hrl ⊢;omega
     rw [hml,wl _ (by omega),if_pos (by omega),if_pos (by omega),Int.toNat_natCast,List.map_append,List.map_singleton,set_last,rdr_last,w64s (j + 1) (by omega)]
     have hp:push (r ++ [(vs[j],m)]) vs[j + 1] = r ++ [(vs[j],m + 1)]:=by
      unfold push
      rw [List.getLast?_concat]
      simp only
      rw [if_pos he.symm,List.dropLast_concat]
     rw [hp,List.map_append,List.map_singleton]
     have e2:wrap64 ((toR (vs[j],m)).f1 + 1) = ((m + 1:Nat):Int):=w64s m (by omega)
     rw [e2]
     rfl
    ·rw [if_neg he]
     refine fresh (r ++ [(vs[j],m)]) (by omega) ?_ k
     unfold push
     rw [List.getLast?_concat]
     simp only
     rw [if_neg (fun e=>he e.symm)]
 unfold runs_Split.f
 refine Ev.same (fun k=>?_) (key vs.length 0 (by omega))
 rw [if_neg (by omega)]
 rfl
theorem runB_length (r:Int × Nat):(runB r).length ≤ 20:=by
 unfold runB
 have h1:=vput_length (foldN r.1)
 have h2:=vput_length r.2
 rw [List.length_append]
 omega
theorem runsB_length:∀ rs:List (Int × Nat),((rs.map runB).flatten).length ≤ 20 * rs.length
 | []=>by simp
 | r :: rs=>by
  have h1:=runB_length r
  have h2:=runsB_length rs
  rw [List.map_cons,List.flatten_cons,List.length_append,List.length_cons]
  omega
theorem rdr_at {rs:List (Int × Nat)} {i:Nat} (h:i < rs.length):rd_T150 (rs.map toR) (i:Int) = toR rs[i]:=by
 unfold rd_T150
 rw [Int.toNat_natCast,List.getD_eq_getElem?_getD,List.getElem?_map,List.getElem?_eq_getElem h]
 rfl
theorem pruns_ev (vs:List Int) (hl:vs.length ≤ 4096) (hi:∀ v ∈ vs,I64 v):Ev (fun k=>runs_Encode.f k vs) (encRuns vs):=by
 have hrl:=rle_length vs
 have hB:=runsB_length (rle vs)
 unfold encRuns runs_Encode.f
 rw [if_pos hl]
 refine Ev.bind (split_law vs hl) ?_
 simp only [if_true,List.length_map]
 rw [wraps_u64 _ (by omega) (by omega)]
 refine Ev.bind (put_ev _ (by omega)) ?_
 have hv:=vput_length (rle vs).length
 have key:∀ n i:Nat,i + n = (rle vs).length → Ev (fun k=>runs_Encode.l0 k (vput (rle vs).length ++ (((rle vs).take i).map runB).flatten) ((rle vs).map toR) ((rle vs).length:Int) (i:Int)) (vput (rle vs).length ++ ((rle vs).map runB).flatten,0):=by
  intro n
  induction n with
  | zero =>
   intro i h
   refine Ev.step (fun k=>?_) (Ev.now _)
   rw [runs_Encode.l0,if_neg (by omega),List.take_of_length_le (by omega)]
  | succ n ih =>
   intro i h
   have hi2:i < (rle vs).length:=by omega
   have hm:=rle_mem (List.getElem_mem hi2)
   have hI:=hi _ hm.1
   have hB2:=runsB_length ((rle vs).take i)
   rw [List.length_take] at hB2
   have h1:=vput_length (foldN (rle vs)[i].1)
   have h2:=vput_length (rle vs)[i].2
   have hrec:=ih (i + 1) (by omega)
   rw [← take_snoc _ i hi2,List.map_append,List.flatten_append] at hrec
   simp only [List.map_cons,List.map_nil,List.flatten_cons,List.flatten_nil,List.append_nil] at hrec
   rw [show runB (rle vs)[i] = vput (foldN (rle vs)[i].1) ++ vput (rle vs)[i].2 from rfl,← List.append_assoc,← List.append_assoc] at hrec
   have hlen:(vput (rle vs).length ++ (((rle vs).take i).map runB).flatten).length ≤ 200000:=by rw [List.length_append];omega
   refine Ev.step (g:=fun k=>(vint_Put.f k ((foldN (rle vs)[i].1:Nat):Int)).bind fun t=>if (vput (rle vs).length ++ (((rle vs).take i).map runB).flatten).length + t.length < 140737488355328 then (some (vput (rle vs).length ++ (((rle vs).take i).map runB).flatten ++ t)).bind fun y=>(vint_Put.f k (((rle vs)[i].2:Nat):Int)).bind fun t2=>if y.length + t2.length < 140737488355328 then runs_Encode.l0 k (y ++ t2) ((rle vs).map toR) ((rle vs).length:Int) ((i + 1:Nat):Int) else none else none) (fun k=>?_) (Ev.bind (put_ev _ (foldN_lt hI)) ?_)
   ·rw [runs_Encode.l0,if_pos (by omega),if_pos (by omega),if_pos (by rw [List.length_map];omega),rdr_at hi2,w64s i (by omega)]
    unfold toR
    simp only
    rw [fold_law hI,Option.bind_some,wraps_u64 _ (by omega) (by omega)]
   ·refine Ev.same (g:=fun k=>(vint_Put.f k (((rle vs)[i].2:Nat):Int)).bind fun t2=>if (vput (rle vs).length ++ (((rle vs).take i).map runB).flatten ++ vput (foldN (rle vs)[i].1)).length + t2.length < 140737488355328 then runs_Encode.l0 k (vput (rle vs).length ++ (((rle vs).take i).map runB).flatten ++ vput (foldN (rle vs)[i].1) ++ t2) ((rle vs).map toR) ((rle vs).length:Int) ((i + 1:Nat):Int) else none) (fun k=>by rw [if_pos (by omega),Option.bind_some]) (Ev.bind (put_ev (rle vs)[i].2 (by omega)) ?_)
    refine Ev.same (fun k=>by rw [if_pos (by rw [List.length_append];omega)]) hrec
 have:=key (rle vs).length 0 (by omega)
 simpa using this
theorem u64_dist {a b:Int} (ha:I64 a) (hb:I64 b) (h:b ≤ a):IntKind.u64.wrap (IntKind.u64.wrap a - IntKind.u64.wrap b) = a - b:=by
 obtain ⟨h1,h2⟩:=ha
 obtain ⟨h3,h4⟩:=hb
 rw [IntKind.wrap_u64,IntKind.wrap_u64,IntKind.wrap_u64]
 omega
theorem preOne_length {last s:List Int} {whole:Bool} (h:s.length ≤ 200):(preOne last s whole).length ≤ 220:=by
 unfold preOne
 have h1:=vput_length (preK last s whole)
 have h2:=vput_length (s.length - preK last s whole)
 simp only [List.length_append,List.length_drop]
 omega
theorem encPreL_snoc_aux (last s:List Int):∀ (ss:List (List Int)) (x:List Int) (i:Nat),encPreL (i + 1) x (ss ++ [s]) = encPreL (i + 1) x ss ++ preOne ((x :: ss).getLast?.getD last) s (decide ((i + (x :: ss).length) % 16 = 0))
 | [],x,i=>by simp [encPreL]
 | y :: ss,x,i=>by
  rw [List.cons_append]
  simp only [encPreL]
  rw [encPreL_snoc_aux last s ss y (i + 1),List.append_assoc]
  have e:i + 1 + (y :: ss).length = i + (x :: y :: ss).length:=by simp only [List.length_cons];omega
  rw [e]
  simp
theorem encPreL_snoc (last s:List Int):∀ (ss:List (List Int)) (i:Nat),encPreL i last (ss ++ [s]) = encPreL i last ss ++ preOne (ss.getLast?.getD last) s (decide ((i + ss.length) % 16 = 0))
 | [],i=>by simp [encPreL]
 | x :: ss,i=>by
  rw [List.cons_append]
  simp only [encPreL]
  rw [encPreL_snoc_aux last s ss x i,List.append_assoc]
theorem encPreL_length:∀ (ss:List (List Int)) (i:Nat) (last:List Int),(∀ s ∈ ss,s.length ≤ 200) → (encPreL i last ss).length ≤ 220 * ss.length
 | [],_,_,_=>by simp [encPreL]
 | s :: ss,i,last,h=>by
  have h1:=preOne_length (last:=last) (whole:=decide (i % 16 = 0)) (h s (by simp))
  have h2:=encPreL_length ss (i + 1) s (fun x hx=>h x (by simp [hx]))
  simp only [encPreL]
  rw [List.length_append,List.length_cons]
  omega
structure Fine (kind:Int) (cs:List Cel):Prop where
 good:GoodKind kind
 len:cs.length ≤ 4096
 chk:∀ c ∈ cs,checkC kind c = 0
 ok:∀ c ∈ cs,CelOk c
theorem Fine.plainly {kind:Int} {cs:List Cel} (h:Fine kind cs):∀ c ∈ there cs,Plainly kind c:=fun c hc=>checkC_plainly (h.chk c (there_mem.1 hc).1) (h.ok c (there_mem.1 hc).1) (there_mem.1 hc).2
theorem Fine.nums {kind:Int} {cs:List Cel} (h:Fine kind cs):(numsC cs).length ≤ 4096 ∧ ∀ v ∈ numsC cs,I64 v:=by
 refine ⟨?_,fun v hv=>?_⟩
 ·unfold numsC
  rw [List.length_map]
  exact Nat.le_trans (List.length_filter_le _ _) h.len
 ·obtain ⟨c,hc,rfl⟩:=List.mem_map.1 hv
  exact (h.ok c (there_mem.1 hc).1).1
theorem Fine.texts {kind:Int} {cs:List Cel} (h:Fine kind cs):(textsC cs).length ≤ 4096 ∧ ∀ s ∈ textsC cs,Bys s:=by
 refine ⟨?_,fun v hv=>?_⟩
 ·unfold textsC
  rw [List.length_map]
  exact Nat.le_trans (List.length_filter_le _ _) h.len
 ·obtain ⟨c,hc,rfl⟩:=List.mem_map.1 hv
  exact (h.ok c (there_mem.1 hc).1).2.1
theorem Fine.short {kind:Int} {cs:List Cel} (h:Fine kind cs) (hk:6 < kind):∀ s ∈ textsC cs,s.length ≤ 200:=by
 intro v hv
 obtain ⟨c,hc,rfl⟩:=List.mem_map.1 hv
 have:=h.plainly c hc
 unfold Plainly at this
 rw [if_neg (by omega)] at this
 exact this.2
theorem Bys.nil:Bys []:=fun x hx=>(by cases hx)
theorem Bys.one {x:Int} (h:0 ≤ x ∧ x < 256):Bys [x]:=fun y hy=>by rw [List.mem_singleton.1 hy];exact h
theorem Bys.flat {α:Type} {f:α → List Int}:∀ {l:List α},(∀ a ∈ l,Bys (f a)) → Bys ((l.map f).flatten)
 | [],_=>Bys.nil
 | a :: l,h=>by
  rw [List.map_cons,List.flatten_cons]
  exact (h a (by simp)).append (Bys.flat (fun b hb=>h b (by simp [hb])))
theorem encRuns_bys {vs:List Int} (hl:vs.length ≤ 4096) (hi:∀ v ∈ vs,I64 v):Bys (encRuns vs).1 ∧ (encRuns vs).1.length ≤ 100000:=by
 have h1:=rle_length vs
 have h2:=runsB_length (rle vs)
 have h3:=vput_length (rle vs).length
 unfold encRuns
 rw [if_pos hl]
 refine ⟨(vput_bys _ (by omega)).append (Bys.flat fun r hr=>?_),by simp only [List.length_append];omega⟩
 have:=rle_mem hr
 exact (vput_bys _ (foldN_lt (hi _ this.1))).append (vput_bys _ (by omega))
theorem encPk_bys {vs:List Int} (hl:vs.length ≤ 4096) (hi:∀ v ∈ vs,I64 v):Bys (encPk vs).1 ∧ (encPk vs).1.length ≤ 100000:=by
 unfold encPk
 rw [if_neg (by omega)]
 by_cases h0:vs.length = 0
 ·rw [if_pos h0]
  exact ⟨vput_bys 0 (by decide),by have:=vput_length 0;simp only;omega⟩
 rw [if_neg h0]
 have hne:vs ≠ []:=fun e=>h0 (by rw [e];rfl)
 have hu:=farS_u64 hi
 have hw:=widS_le hu
 have h1:=vput_length vs.length
 have h2:=vput_length (foldN (leastS vs))
 have h3:=packS_short (widS (farS vs)) (farS vs) hw (by simp [farS];omega)
 refine ⟨(((vput_bys _ (by omega)).append (vput_bys _ (foldN_lt (hi _ (leastS_mem hne))))).append (Bys.one (by omega))).append (packS_bys _ _),by simp only [List.length_append,List.length_singleton];omega⟩
theorem encS_bys {ss:List (List Int)} (hl:ss.length ≤ 4096) (hs:∀ s ∈ ss,s.length ≤ 200) (hb:∀ s ∈ ss,Bys s):Bys (encS ss).1 ∧ (encS ss).1.length ≤ 1000000:=by
 have hid:(idx ss).2.2 = 0:=by
  unfold idx
  rw [if_neg]
  rintro (h | ⟨s,h1,h⟩)
  ·omega
  ·have:=hs s h1;omega
 obtain ⟨_,_,h3,h4⟩:=idx_ok hid
 have hel:=ents_length ss
 have h5:=ones_length (ents ss) (fun s h=>hs s (ents_mem.1 h))
 have h6:=vput_length (ents ss).length
 have h7:=vput_length (idx ss).2.1.length
 have h8:=packS_short (wid (ents ss).length) (idx ss).2.1 (by have:=wid_le (ents ss).length (by omega);omega) (by rw [h4,List.length_map];exact hl)
 have h9:(idx ss).2.1.length = ss.length:=by rw [h4,List.length_map]
 unfold encS
 rw [if_pos hid]
 unfold encB
 rw [h3]
 refine ⟨(((vput_bys _ (by omega)).append (Bys.flat fun s h=>?_)).append (vput_bys _ (by omega))).append (packS_bys _ _),by simp only [List.length_append];omega⟩
 have h10:=hs s (ents_mem.1 h)
 exact (vput_bys _ (by omega)).append (hb s (ents_mem.1 h))
theorem encPreL_bys:∀ (ss:List (List Int)) (i:Nat) (last:List Int),(∀ s ∈ ss,s.length ≤ 200) → (∀ s ∈ ss,Bys s) → Bys (encPreL i last ss)
 | [],_,_,_,_=>Bys.nil
 | s :: ss,i,last,hs,hb=>by
  simp only [encPreL]
  refine Bys.append ?_ (encPreL_bys ss (i + 1) s (fun x hx=>hs x (by simp [hx])) (fun x hx=>hb x (by simp [hx])))
  have h1:=hs s (by simp)
  have hk:preK last s (decide (i % 16 = 0)) ≤ s.length:=by
   unfold preK
   split
   ·omega
   ·exact (sharedL_spec last s).2.1
  exact ((vput_bys _ (by omega)).append (vput_bys _ (by omega))).append ((hb s (by simp)).drop _)
theorem encPre_bys {ss:List (List Int)} (hl:ss.length ≤ 4096) (hs:∀ s ∈ ss,s.length ≤ 200) (hb:∀ s ∈ ss,Bys s):Bys (encPre ss).1 ∧ (encPre ss).1.length ≤ 1000000:=by
 have h1:=encPreL_length ss 0 [] hs
 have h2:=vput_length ss.length
 unfold encPre
 rw [if_neg (by rintro (h | ⟨s,h1,h2⟩);omega;have:=hs s h1;omega)]
 exact ⟨(vput_bys _ (by omega)).append (encPreL_bys ss 0 [] hs hb),by simp only [List.length_append];omega⟩
theorem plainC_bys {kind:Int} {c:Cel} (h:Plainly kind c) (ok:CelOk c):Bys (plainC kind c):=by
 unfold plainC Plainly at *
 split
 ·rename_i hk
  rw [if_pos hk] at h
  exact vput_bys _ (foldN_lt h.2)
 ·rename_i hk
  rw [if_neg hk] at h
  have:=h.2
  exact (vput_bys _ (by omega)).append ok.2.1
theorem body_fine {kind codec:Int} {cs:List Cel} (h:Fine kind cs) (hf:fitsC kind codec):Bys (bodyS kind codec cs).1 ∧ (bodyS kind codec cs).1.length ≤ 1000000 ∧ (bodyS kind codec cs).2 = 0:=by
 have h2:=(cells_fwd hf h.len h.plainly).1
 refine (fun (x:Bys (bodyS kind codec cs).1 ∧ (bodyS kind codec cs).1.length ≤ 1000000)=>⟨x.1,x.2,h2⟩) ?_
 have htl:(there cs).length ≤ cs.length:=List.length_filter_le _ _
 have hl:=h.len
 unfold bodyS
 by_cases e2:codec = 2
 ·rw [if_pos e2]
  have:=encRuns_bys h.nums.1 h.nums.2
  exact ⟨this.1,by omega⟩
 rw [if_neg e2]
 by_cases e3:codec = 3
 ·rw [if_pos e3]
  have:=encPk_bys h.nums.1 h.nums.2
  exact ⟨this.1,by omega⟩
 rw [if_neg e3]
 by_cases e4:codec = 4
 ·rw [if_pos e4]
  exact encS_bys h.texts.1 (h.short (by unfold fitsC at hf;omega)) h.texts.2
 rw [if_neg e4]
 by_cases e5:codec = 5
 ·rw [if_pos e5]
  exact encPre_bys h.texts.1 (h.short (by unfold fitsC at hf;omega)) h.texts.2
 rw [if_neg e5]
 have h3:=plainS_length h.plainly
 refine ⟨Bys.flat fun c hc=>plainC_bys (h.plainly c hc) (h.ok c (there_mem.1 hc).1),?_⟩
 show (plainS kind cs).length ≤ _
 unfold plainS
 omega
theorem nullsS_fine {cs:List Cel} (hl:cs.length ≤ 4096):Bys (nullsS cs) ∧ (nullsS cs).length ≤ 50000:=by
 have:=packS_short 1 (cs.map markC) (by decide) (by rw [List.length_map];exact hl)
 unfold nullsS
 split
 ·exact ⟨(Bys.one (by decide)).append (packS_bys _ _),by rw [List.length_cons];omega⟩
 ·exact ⟨Bys.one (by decide),by decide⟩
theorem fits_codec {kind codec:Int} (h:fitsC kind codec):1 ≤ codec ∧ codec ≤ 5:=by unfold fitsC at h;omega
theorem head_fine {kind codec:Int} {cs:List Cel} (hl:cs.length ≤ 4096) (hf:fitsC kind codec):Bys (headS codec cs) ∧ (headS codec cs).length ≤ 60000:=by
 have h1:=fits_codec hf
 have h2:=nullsS_fine hl
 have h3:=vput_length cs.length
 unfold headS
 exact ⟨(Bys.one (by omega)).append ((vput_bys _ (by omega)).append h2.1),by simp only [List.length_cons,List.length_append];omega⟩
theorem fine_of {kind:Int} {cs:List Cel} (hk:¬ (kind < 1 ∨ 8 < kind)) (hc:checkCs kind cs = 0) (hok:∀ c ∈ cs,CelOk c):Fine kind cs:=⟨⟨by omega,by omega⟩,(checkCs_zero.1 hc).1,(checkCs_zero.1 hc).2,hok⟩
end Go.Proofs.YteeikgjjgfdjgaaGreat.PK
end
