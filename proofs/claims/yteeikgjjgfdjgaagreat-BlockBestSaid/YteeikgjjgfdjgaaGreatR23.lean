/-
  Parts of the proof: Cs, Ct.
-/
import Derived.Test.YteeikgjjgfdjgaaGreatR5
import Derived.Test.YteeikgjjgfdjgaaGreatR12
import Derived.Test.YteeikgjjgfdjgaaGreatR6
import Derived.Test.YteeikgjjgfdjgaaGreatR10
import Derived.Test.YteeikgjjgfdjgaaGreatR11
import Derived.Test.YteeikgjjgfdjgaaGreatR17
import Derived.Test.YteeikgjjgfdjgaaGreatR18
import Derived.Test.YteeikgjjgfdjgaaGreatR22
import Derived.Test.YteeikgjjgfdjgaaGreatR19
section
namespace Go.Proofs.YteeikgjjgfdjgaaGreat.PK
open Go.RowKit Go.Proofs.YteeikgjjgfdjgaaGreatW.PrintWords Go.Proofs.YteeikgjjgfdjgaaGreatW.PrintLast Go.Proofs.YteeikgjjgfdjgaaGreatW.PrintMore
set_option linter.unusedVariables false
set_option linter.unusedSimpArgs false
theorem bitLen_or {a b:Nat} (ha:a < 2 ^ 64) (hb:b < 2 ^ 64):Lib.bitLen (a ||| b) = max (Lib.bitLen a) (Lib.bitLen b):=by
 have hab:a ||| b < 2 ^ 64:=Nat.or_lt_two_pow ha hb
 have h1:=bitLen64 ha
 have h2:=bitLen64 hb
 have key:∀ w,w ≤ 64 → (Lib.bitLen (a ||| b) ≤ w ↔ Lib.bitLen a ≤ w ∧ Lib.bitLen b ≤ w):=by
  intro w hw
  rw [bitLen_fit hab hw,bitLen_fit ha hw,bitLen_fit hb hw]
  exact ⟨fun h=>⟨Nat.lt_of_le_of_lt Nat.left_le_or h,Nat.lt_of_le_of_lt Nat.right_le_or h⟩,fun h=>Nat.or_lt_two_pow h.1 h.2⟩
 have h3:=bitLen64 hab
 apply Nat.le_antisymm
 ·exact (key _ (by omega)).2 ⟨by omega,by omega⟩
 ·have:=(key _ h3).1 (Nat.le_refl _)
  omega
theorem pwidth_ev {us:List Int} (hu:U64s us) (hl:us.length ≤ 4096):Ev (fun k=>bits_Width.f k us) ((widS us:Nat):Int):=by
 have key:∀ n i a:Nat,i + n = us.length → a < 2 ^ 64 → Ev (fun k=>bits_Width.l0 k (a:Int) us (us.length:Int) (i:Int)) ((max (Lib.bitLen a) (widS (us.drop i)):Nat):Int):=by
  intro n
  induction n with
  | zero =>
   intro i a h ha
   refine Ev.step (fun k=>?_) (Ev.now _)
   rw [bits_Width.l0,if_neg (by omega),List.drop_eq_nil_of_le (by omega)]
   unfold bits_Len64.f
   rw [if_pos (by omega),if_pos (by omega),Option.bind_some,Int.toNat_natCast]
   simp [widS]
  | succ n ih =>
   intro i a h ha
   have hi:i < us.length:=by omega
   have hx:=hu us[i] (List.getElem_mem hi)
   have hrec:=ih (i + 1) (a ||| us[i].toNat) (by omega) (Nat.or_lt_two_pow ha (by omega))
   rw [bitLen_or ha (by omega)] at hrec
   rw [List.drop_eq_getElem_cons hi]
   simp only [widS]
   rw [show max (Lib.bitLen a) (max (Lib.bitLen us[i].toNat) (widS (us.drop (i + 1)))) = max (max (Lib.bitLen a) (Lib.bitLen us[i].toNat)) (widS (us.drop (i + 1))) by omega]
   refine Ev.step (fun k=>?_) hrec
   have:Go.bits .or .u64 (a:Int) us[i] = ((a ||| us[i].toNat:Nat):Int):=by
    conv=>lhs;rw [← Int.toNat_of_nonneg hx.1]
    exact bits_or_u64_nat a us[i].toNat (by omega) (by omega)
   rw [bits_Width.l0,if_pos (by omega),if_pos (by omega),if_pos (by omega),rd_at hi,w64s i (by omega),this]
 have:=key us.length 0 0 (by omega) (by decide)
 rw [show Lib.bitLen 0 = 0 from rfl,Nat.zero_max] at this
 exact this
theorem rwidth_ev {us:List Int} (hu:U64s us) (hl:us.length ≤ 4096):Ev (fun k=>stoaref01_Width.f k us) ((widS us:Nat):Int):=by
 have key:∀ n i m:Nat,i + n = us.length → Ev (fun k=>stoaref01_Width.l0 k us (m:Int) (i:Int)) ((max m (widS (us.drop i)):Nat):Int):=by
  intro n
  induction n with
  | zero =>
   intro i m h
   refine Ev.step (fun k=>?_) (Ev.now _)
   rw [stoaref01_Width.l0,if_neg (by omega),List.drop_eq_nil_of_le (by omega)]
   simp [widS]
  | succ n ih =>
   intro i m h
   have hi:i < us.length:=by omega
   have hx:=hu us[i] (List.getElem_mem hi)
   have hrec:=ih (i + 1) (max m (0 + Lib.bitLen us[i].toNat)) (by omega)
   rw [List.drop_eq_getElem_cons hi]
   simp only [widS]
   rw [show max m (max (Lib.bitLen us[i].toNat) (widS (us.drop (i + 1)))) = max (max m (0 + Lib.bitLen us[i].toNat)) (widS (us.drop (i + 1))) by omega]
   refine Ev.step (g:=fun k=>stoaref01_Width.l1 k us (m:Int) (i:Int) ((0:Nat):Int) ((us[i].toNat:Nat):Int)) (fun k=>?_) (rw_in us 64 us[i].toNat 0 m i (by omega) (by omega) (by omega) _ ?_)
   ·rw [stoaref01_Width.l0,if_pos (by omega),if_pos (by omega),rd_at hi,Int.toNat_of_nonneg hx.1]
    rfl
   ·rw [w64s i (by omega)]
    exact hrec
 have:=key us.length 0 0 (by omega)
 rw [Nat.zero_max] at this
 exact this
def toR (r:Int × Nat):S150:=⟨r.1,(r.2:Int)⟩
theorem push_last (rs:List (Int × Nat)) (v:Int):∃ r n,push rs v = r ++ [(v,n)]:=by
 unfold push
 cases h:rs.getLast? with
 | none=>exact ⟨[],1,rfl⟩
 | some a =>
  obtain ⟨u,n⟩:=a
  simp only
  split
  ·rename_i e;subst e;exact ⟨_,_,rfl⟩
  ·exact ⟨_,_,rfl⟩
theorem rle_last {vs:List Int} {i:Nat} (h:i < vs.length):∃ r n,rle (vs.take (i + 1)) = r ++ [(vs[i],n)]:=by
 rw [← take_snoc vs i h,rle_snoc]
 exact push_last _ _
theorem set_last {α:Type} (r:List α) (a b:α):(r ++ [a]).set r.length b = r ++ [b]:=by
 rw [List.set_append_right _ _ (Nat.le_refl _),Nat.sub_self];rfl
theorem rdr_last (r:List S150) (a:S150):rd_T150 (r ++ [a]) (r.length:Int) = a:=by
 unfold rd_T150
 rw [Int.toNat_natCast,List.getD_eq_getElem?_getD,List.getElem?_append_right (Nat.le_refl _),Nat.sub_self]
 rfl
theorem wl (n:Nat) (h:n < 4611686018427387904):wrap64 (((n + 1:Nat):Int) - 1) = (n:Int):=by rw [w64 (by omega) (by omega)];omega
theorem split_law (vs:List Int) (hl:vs.length ≤ 4096):Ev (fun k=>runs_Split.f k vs) ((rle vs).map toR,0):=by
 have key:∀ n i:Nat,i + n = vs.length → Ev (fun k=>runs_Split.l0 k vs ((rle (vs.take i)).map toR) vs (vs.length:Int) (i:Int)) ((rle vs).map toR,0):=by
  intro n
  induction n with
  | zero =>
   intro i h
   refine Ev.step (fun k=>?_) (Ev.now _)
   rw [runs_Split.l0,if_neg (by omega),List.take_of_length_le (by omega)]
  | succ n ih =>
   intro i h
   have hi:i < vs.length:=by omega
   have hrl:=rle_length (vs.take i)
   rw [List.length_take] at hrl
   have hrec:=ih (i + 1) (by omega)
   rw [← take_snoc vs i hi,rle_snoc] at hrec
   have fresh:∀ R:List (Int × Nat),R.length ≤ 4096 → push R vs[i] = R ++ [(vs[i],1)] → ∀ k,(if (R.map toR).length < 8796093022208 then ((some (R.map toR ++ [(⟨vs[i],0⟩:S150)])).bind fun y=>(if 0 ≤ (wrap64 ((y.length:Int) - 1)) then (if (wrap64 ((y.length:Int) - 1)) < (y.length:Int) then (runs_Split.l0 k vs (y.set ((wrap64 ((y.length:Int) - 1)):Int).toNat (⟨(rd_T150 y (wrap64 ((y.length:Int) - 1))).f0,wrap64 (((rd_T150 y (wrap64 ((y.length:Int) - 1))).f1) + 1)⟩:S150)) vs (vs.length:Int) (wrap64 ((i:Int) + 1))) else (none)) else (none))) else (none)) = runs_Split.l0 k vs ((push R vs[i]).map toR) vs (vs.length:Int) ((i + 1:Nat):Int):=by
    intro R hR hp k
    have hml:(R.map toR).length = R.length:=List.length_map _
    rw [if_pos (by rw [hml];omega),Option.bind_some,List.length_append,hml,List.length_singleton,wl R.length (by omega),if_pos (by omega),if_pos (by omega),Int.toNat_natCast,← hml,set_last,rdr_last,hp,List.map_append,w64s i (by omega),show wrap64 ((0:Int) + 1) = 1 from by unfold wrap64;decide]
    rfl
   by_cases h0:i = 0
   ·subst h0
    refine Ev.step (fun k=>?_) hrec
    rw [runs_Split.l0,if_pos (by omega),if_pos (by omega),if_pos (by omega),if_pos (show ((0:Nat):Int) = 0 from rfl),rd_at hi]
    exact fresh (rle (vs.take 0)) (by simp [rle]) rfl k
   ·obtain ⟨j,rfl⟩:∃ j,i = j + 1:=⟨i - 1,by omega⟩
    obtain ⟨r,m,hr⟩:=rle_last (vs:=vs) (i:=j) (by omega)
    have hm:=rle_mem (vs:=vs.take (j + 1)) (r:=(vs[j],m)) (by rw [hr];simp)
    rw [List.length_take] at hm
    rw [hr] at hrec hrl
    refine Ev.step (fun k=>?_) hrec
    rw [hr]
    rw [runs_Split.l0,if_pos (by omega),if_pos (by omega),if_pos (by omega),if_neg (by omega),rd_at hi,wl j (by omega),if_pos (by omega),if_pos (by omega),rd_at (show j < vs.length by omega)]
    by_cases he:vs[j + 1] = vs[j]
    ·rw [if_pos he]
     have hml:((r ++ [(vs[j],m)]).map toR).length = (r.map toR).length + 1:=by simp
     have hrr:(r.map toR).length ≤ 4096:=by rw [List.length_append] at hrl;simp at hrl ⊢;omega
     rw [hml,wl _ (by omega),if_pos (by omega),if_pos (by omega),Int.toNat_natCast,List.map_append,List.map_singleton,set_last,rdr_last,w64s (j + 1) (by omega)]
     have hp:push (r ++ [(vs[j],m)]) vs[j + 1] = r ++ [(vs[j],m + 1)]:=by
      unfold push
      rw [List.getLast?_concat]
      simp only
      rw [if_pos he.symm,List.dropLast_concat]
     rw [hp,List.map_append,List.map_singleton]
     have e2:wrap64 ((toR (vs[j],m)).f1 + 1) = ((m + 1:Nat):Int):=w64s m (by omega)
     rw [e2]
     rfl
    ·rw [if_neg he]
     refine fresh (r ++ [(vs[j],m)]) (by omega) ?_ k
     unfold push
     rw [List.getLast?_concat]
     simp only
     rw [if_neg (fun e=>he e.symm)]
 unfold runs_Split.f
 refine Ev.same (fun k=>?_) (key vs.length 0 (by omega))
 rw [if_neg (by omega)]
 rfl
theorem runB_length (r:Int × Nat):(runB r).length ≤ 20:=by
 unfold runB
 have h1:=vput_length (foldN r.1)
 have h2:=vput_length r.2
 rw [List.length_append]
 omega
theorem runsB_length:∀ rs:List (Int × Nat),((rs.map runB).flatten).length ≤ 20 * rs.length
 | []=>by simp
 | r :: rs=>by
  have h1:=runB_length r
  have h2:=runsB_length rs
  rw [List.map_cons,List.flatten_cons,List.length_append,List.length_cons]
  omega
theorem rdr_at {rs:List (Int × Nat)} {i:Nat} (h:i < rs.length):rd_T150 (rs.map toR) (i:Int) = toR rs[i]:=by
 unfold rd_T150
 rw [Int.toNat_natCast,List.getD_eq_getElem?_getD,List.getElem?_map,List.getElem?_eq_getElem h]
 rfl
theorem pruns_ev (vs:List Int) (hl:vs.length ≤ 4096) (hi:∀ v ∈ vs,I64 v):Ev (fun k=>runs_Encode.f k vs) (encRuns vs):=by
 have hrl:=rle_length vs
 have hB:=runsB_length (rle vs)
 unfold encRuns runs_Encode.f
 rw [if_pos hl]
 refine Ev.bind (split_law vs hl) ?_
 simp only [if_true,List.length_map]
 rw [wraps_u64 _ (by omega) (by omega)]
 refine Ev.bind (put_ev _ (by omega)) ?_
 have hv:=vput_length (rle vs).length
 have key:∀ n i:Nat,i + n = (rle vs).length → Ev (fun k=>runs_Encode.l0 k (vput (rle vs).length ++ (((rle vs).take i).map runB).flatten) ((rle vs).map toR) ((rle vs).length:Int) (i:Int)) (vput (rle vs).length ++ ((rle vs).map runB).flatten,0):=by
  intro n
  induction n with
  | zero =>
   intro i h
   refine Ev.step (fun k=>?_) (Ev.now _)
   rw [runs_Encode.l0,if_neg (by omega),List.take_of_length_le (by omega)]
  | succ n ih =>
   intro i h
   have hi2:i < (rle vs).length:=by omega
   have hm:=rle_mem (List.getElem_mem hi2)
   have hI:=hi _ hm.1
   have hB2:=runsB_length ((rle vs).take i)
   rw [List.length_take] at hB2
   have h1:=vput_length (foldN (rle vs)[i].1)
   have h2:=vput_length (rle vs)[i].2
   have hrec:=ih (i + 1) (by omega)
   rw [← take_snoc _ i hi2,List.map_append,List.flatten_append] at hrec
   simp only [List.map_cons,List.map_nil,List.flatten_cons,List.flatten_nil,List.append_nil] at hrec
   rw [show runB (rle vs)[i] = vput (foldN (rle vs)[i].1) ++ vput (rle vs)[i].2 from rfl,← List.append_assoc,← List.append_assoc] at hrec
   have hlen:(vput (rle vs).length ++ (((rle vs).take i).map runB).flatten).length ≤ 200000:=by rw [List.length_append];omega
   refine Ev.step (g:=fun k=>(vint_Put.f k ((foldN (rle vs)[i].1:Nat):Int)).bind fun t=>if (vput (rle vs).length ++ (((rle vs).take i).map runB).flatten).length + t.length < 140737488355328 then (some (vput (rle vs).length ++ (((rle vs).take i).map runB).flatten ++ t)).bind fun y=>(vint_Put.f k (((rle vs)[i].2:Nat):Int)).bind fun t2=>if y.length + t2.length < 140737488355328 then runs_Encode.l0 k (y ++ t2) ((rle vs).map toR) ((rle vs).length:Int) ((i + 1:Nat):Int) else none else none) (fun k=>?_) (Ev.bind (put_ev _ (foldN_lt hI)) ?_)
   ·rw [runs_Encode.l0,if_pos (by omega),if_pos (by omega),if_pos (by rw [List.length_map];omega),rdr_at hi2,w64s i (by omega)]
    unfold toR
    simp only
    rw [fold_law hI,Option.bind_some,wraps_u64 _ (by omega) (by omega)]
   ·refine Ev.same (g:=fun k=>(vint_Put.f k (((rle vs)[i].2:Nat):Int)).bind fun t2=>if (vput (rle vs).length ++ (((rle vs).take i).map runB).flatten ++ vput (foldN (rle vs)[i].1)).length + t2.length < 140737488355328 then runs_Encode.l0 k (vput (rle vs).length ++ (((rle vs).take i).map runB).flatten ++ vput (foldN (rle vs)[i].1) ++ t2) ((rle vs).map toR) ((rle vs).length:Int) ((i + 1:Nat):Int) else none) (fun k=>by rw [if_pos (by omega),Option.bind_some]) (Ev.bind (put_ev (rle vs)[i].2 (by omega)) ?_)
    refine Ev.same (fun k=>by rw [if_pos (by rw [List.length_append];omega)]) hrec
 have:=key (rle vs).length 0 (by omega)
 simpa using this
theorem rsplit_ev (vs:List Int) (hl:vs.length ≤ 4096):Ev (fun k=>stoaref08_Split.f k vs) ((rle vs).map toR,0):=by
 have inner:∀ (m i n:Nat) (A:List (Int × Nat)),i + n + m = vs.length → 0 < n → (hi:i < vs.length) → vs.drop i = List.replicate n vs[i] ++ vs.drop (i + n) → A ++ rle (vs.drop i) = rle vs →
   (∀ (i':Nat) (A':List (Int × Nat)),i < i' → i' ≤ vs.length → A' ++ rle (vs.drop i') = rle vs → Ev (fun k=>stoaref08_Split.l0 k vs (A'.map toR) (i':Int)) ((rle vs).map toR,0)) →
   Ev (fun k=>stoaref08_Split.l1 k vs (A.map toR) (i:Int) (n:Int)) ((rle vs).map toR,0):=by
  intro m
  induction m with
  | zero =>
   intro i n A h hn hi hd hA hout
   have hAl:A.length ≤ 4096:=by
    have:=congrArg List.length hA
    have h2:=rle_length vs
    rw [List.length_append] at this
    omega
   have hrep:rle (vs.drop i) = (vs[i],n) :: rle (vs.drop (i + n)):=by
    rw [hd]
    exact rle_replicate hn (fun u m r e=>by rw [List.drop_eq_nil_of_le (by omega)] at e;simp [rle] at e)
   refine Ev.step (fun k=>?_) (hout (i + n) (A ++ [(vs[i],n)]) (by omega) (by omega) (by rw [← hA,hrep];simp))
   rw [stoaref08_Split.l1,w64 (n:=(i:Int) + n) (by omega) (by omega),if_neg (by omega),if_pos (by omega),if_pos (by omega),if_pos (by rw [List.length_map];omega),rd_at hi,w64 (n:=(i:Int) + n - 1) (by omega) (by omega),w64 (by omega) (by omega),List.map_append,show ((i:Int) + n - 1 + 1) = ((i + n:Nat):Int) by omega]
   rfl
  | succ m ih =>
   intro i n A h hn hi hd hA hout
   have hin:i + n < vs.length:=by omega
   by_cases he:vs[i + n] = vs[i]
   ·refine Ev.step (fun k=>?_) (ih i (n + 1) A (by omega) (by omega) hi ?_ hA hout)
    ·rw [stoaref08_Split.l1,w64 (n:=(i:Int) + n) (by omega) (by omega),if_pos (by omega),if_pos (by omega),if_pos (by omega),if_pos (by omega),show ((i:Int) + n) = ((i + n:Nat):Int) by omega,rd_at hin,rd_at hi,if_pos he,w64s n (by omega)]
    ·rw [hd,List.drop_eq_getElem_cons hin,he,List.replicate_succ',List.append_assoc]
     rfl
   ·have hAl:A.length ≤ 4096:=by
     have:=congrArg List.length hA
     have h2:=rle_length vs
     rw [List.length_append] at this
     omega
    have hrep:rle (vs.drop i) = (vs[i],n) :: rle (vs.drop (i + n)):=by
     rw [hd]
     refine rle_replicate hn (fun u m r e=>?_)
     rw [List.drop_eq_getElem_cons hin] at e
     have hu:u = vs[i + n]:=by
      simp only [rle] at e
      split at e
      ·injection e with e1;injection e1 with e1;exact e1.symm
      ·split at e
       ·rename_i e2;injection e with e1;injection e1 with e1;rw [← e1,e2]
       ·injection e with e1;injection e1 with e1;exact e1.symm
     rw [hu]
     exact he
    refine Ev.step (fun k=>?_) (hout (i + n) (A ++ [(vs[i],n)]) (by omega) (by omega) (by rw [← hA,hrep];simp))
    rw [stoaref08_Split.l1,w64 (n:=(i:Int) + n) (by omega) (by omega),if_pos (by omega),if_pos (by omega),if_pos (by omega),if_pos (by omega),show ((i:Int) + n) = ((i + n:Nat):Int) by omega,rd_at hin,rd_at hi,if_neg he,if_pos (by rw [List.length_map];omega),w64 (n:=((i + n:Nat):Int) - 1) (by omega) (by omega),w64 (by omega) (by omega),List.map_append,show (((i + n:Nat):Int) - 1 + 1) = ((i + n:Nat):Int) by omega]
    rfl
 have key:∀ (n i:Nat) (A:List (Int × Nat)),i + n = vs.length → A ++ rle (vs.drop i) = rle vs → Ev (fun k=>stoaref08_Split.l0 k vs (A.map toR) (i:Int)) ((rle vs).map toR,0):=by
  intro n
  induction n using Nat.strongRecOn with
  | ind n ih =>
   intro i A h hA
   by_cases h0:n = 0
   ·refine Ev.step (fun k=>?_) (Ev.now _)
    rw [stoaref08_Split.l0,if_neg (by omega)]
    rw [List.drop_eq_nil_of_le (by omega)] at hA
    rw [← hA]
    simp [rle]
   ·have hi:i < vs.length:=by omega
    refine Ev.step (fun k=>?_) (inner (n - 1) i 1 A (by omega) (by decide) hi (by rw [List.drop_eq_getElem_cons hi];rfl) hA (fun i' A' h1 h2 h3=>ih (vs.length - i') (by omega) i' A' (by omega) h3))
    rw [stoaref08_Split.l0,if_pos (by omega)]
    rfl
 unfold stoaref08_Split.f
 refine Ev.same (fun k=>?_) (key vs.length 0 [] (by omega) rfl)
 rw [if_neg (by omega)]
 rfl
theorem rruns_ev (vs:List Int) (hl:vs.length ≤ 4096) (hi:∀ v ∈ vs,I64 v):Ev (fun k=>stoaref08_Encode.f k vs) (encRuns vs):=by
 have hrl:=rle_length vs
 have hB:=runsB_length (rle vs)
 unfold encRuns stoaref08_Encode.f
 rw [if_pos hl]
 refine Ev.bind (rsplit_ev vs hl) ?_
 simp only [if_true,List.length_map]
 rw [wraps_u64 _ (by omega) (by omega)]
 refine Ev.bind (rput_ev _ (by omega)) ?_
 have hv:=vput_length (rle vs).length
 have key:∀ n i:Nat,i + n = (rle vs).length → Ev (fun k=>stoaref08_Encode.l0 k ((rle vs).map toR) (vput (rle vs).length ++ (((rle vs).take i).map runB).flatten) (i:Int)) (vput (rle vs).length ++ ((rle vs).map runB).flatten,0):=by
  intro n
  induction n with
  | zero =>
   intro i h
   refine Ev.step (fun k=>?_) (Ev.now _)
   rw [stoaref08_Encode.l0,if_neg (by rw [List.length_map];omega),List.take_of_length_le (by omega)]
  | succ n ih =>
   intro i h
   have hi2:i < (rle vs).length:=by omega
   have hm:=rle_mem (List.getElem_mem hi2)
   have hI:=hi _ hm.1
   have hB2:=runsB_length ((rle vs).take i)
   rw [List.length_take] at hB2
   have h1:=vput_length (foldN (rle vs)[i].1)
   have h2:=vput_length (rle vs)[i].2
   have hrec:=ih (i + 1) (by omega)
   rw [← take_snoc _ i hi2,List.map_append,List.flatten_append] at hrec
   simp only [List.map_cons,List.map_nil,List.flatten_cons,List.flatten_nil,List.append_nil] at hrec
   rw [show runB (rle vs)[i] = vput (foldN (rle vs)[i].1) ++ vput (rle vs)[i].2 from rfl,← List.append_assoc,← List.append_assoc] at hrec
   have hlen:(vput (rle vs).length ++ (((rle vs).take i).map runB).flatten).length ≤ 200000:=by rw [List.length_append];omega
   refine Ev.step (g:=fun k=>(stoaref02_Put.f k ((foldN (rle vs)[i].1:Nat):Int)).bind fun t=>(stoaref01_Cat.f k (vput (rle vs).length ++ (((rle vs).take i).map runB).flatten) t).bind fun y=>(stoaref02_Put.f k (((rle vs)[i].2:Nat):Int)).bind fun t2=>(stoaref01_Cat.f k y t2).bind fun z=>stoaref08_Encode.l0 k ((rle vs).map toR) z ((i + 1:Nat):Int)) (fun k=>?_) (Ev.bind (rput_ev _ (foldN_lt hI)) (Ev.bind (cat_ev _ _ (by omega)) (Ev.bind (rput_ev (rle vs)[i].2 (by omega)) (Ev.bind (cat_ev _ _ (by rw [List.length_append];omega)) hrec))))
   ·rw [stoaref08_Encode.l0,if_pos (by rw [List.length_map];omega),if_pos (by omega),rdr_at hi2,w64s i (by omega)]
    unfold toR
    simp only
    rw [rfold_law hI,Option.bind_some,wraps_u64 _ (by omega) (by omega)]
 have:=key (rle vs).length 0 (by omega)
 simpa using this
theorem rleast_ev (vs:List Int) (h0:vs ≠ []) (hl:vs.length ≤ 4096):Ev (fun k=>stoaref09_Least.f k vs) (leastS vs):=by
 have hpos:0 < vs.length:=List.length_pos_iff.2 h0
 have key:∀ (n i:Nat) (m:Int),i + n = vs.length → m ∈ vs → (∀ v ∈ vs.take i,m ≤ v) → Ev (fun k=>stoaref09_Least.l0 k vs m (i:Int)) (leastS vs):=by
  intro n
  induction n with
  | zero =>
   intro i m h hm hle
   refine Ev.step (fun k=>?_) (Ev.now _)
   rw [List.take_of_length_le (by omega)] at hle
   rw [stoaref09_Least.l0,if_neg (by omega),leastS_eq hm hle]
  | succ n ih =>
   intro i m h hm hle
   have hi:i < vs.length:=by omega
   by_cases hx:vs[i] < m
   ·refine Ev.step (fun k=>?_) (ih (i + 1) vs[i] (by omega) (List.getElem_mem hi) (fun v hv=>?_))
    ·rw [stoaref09_Least.l0,if_pos (by omega),if_pos (by omega),rd_at hi,if_pos hx,w64s i (by omega)]
    ·rw [← take_snoc vs i hi] at hv
     rcases List.mem_append.1 hv with hv | hv
     ·have:=hle v hv;omega
     ·rw [List.mem_singleton.1 hv];exact Int.le_refl _
   ·refine Ev.step (fun k=>?_) (ih (i + 1) m (by omega) hm (fun v hv=>?_))
    ·rw [stoaref09_Least.l0,if_pos (by omega),if_pos (by omega),rd_at hi,if_neg hx,w64s i (by omega)]
    ·rw [← take_snoc vs i hi] at hv
     rcases List.mem_append.1 hv with hv | hv
     ·exact hle v hv
     ·rw [List.mem_singleton.1 hv];omega
 have e:rd vs 0 = vs[0]:=rd_at hpos
 refine Ev.same (fun k=>?_) (key vs.length 0 vs[0] (by omega) (List.getElem_mem hpos) (fun v hv=>by simp at hv))
 unfold stoaref09_Least.f
 rw [if_pos (by omega),e]
 rfl
theorem u64_dist {a b:Int} (ha:I64 a) (hb:I64 b) (h:b ≤ a):IntKind.u64.wrap (IntKind.u64.wrap a - IntKind.u64.wrap b) = a - b:=by
 obtain ⟨h1,h2⟩:=ha
 obtain ⟨h3,h4⟩:=hb
 rw [IntKind.wrap_u64,IntKind.wrap_u64,IntKind.wrap_u64]
 omega
theorem rpk_ev (vs:List Int) (hl:vs.length ≤ 4096) (hi:∀ v ∈ vs,I64 v):Ev (fun k=>stoaref09_Encode.f k vs) (encPk vs):=by
 unfold encPk stoaref09_Encode.f
 rw [if_neg (by omega)]
 refine Ev.same (g:=fun k=>(stoaref02_Put.f k ((vs.length:Nat):Int)).bind fun t=>if (vs.length:Int) = 0 then some (t,0) else (stoaref09_Least.f k vs).bind fun u=>stoaref09_Encode.l0 k vs t u [] 0) (fun k=>by rw [if_neg (by omega),wraps_u64 _ (by omega) (by omega)]) (Ev.bind (rput_ev vs.length (by omega)) ?_)
 by_cases h0:vs.length = 0
 ·rw [if_pos h0]
  refine Ev.same (fun k=>?_) (Ev.now _)
  rw [if_pos (by omega),h0]
 rw [if_neg h0]
 have hne:vs ≠ []:=fun e=>h0 (by rw [e];rfl)
 have hI:=hi _ (leastS_mem hne)
 have hu:=farS_u64 hi
 have hw:=widS_le hu
 have hfl:(farS vs).length = vs.length:=by simp [farS]
 have hv:=vput_length vs.length
 have hv2:=vput_length (foldN (leastS vs))
 have hps:=packS_short (widS (farS vs)) (farS vs) hw (by omega)
 refine Ev.same (g:=fun k=>(stoaref09_Least.f k vs).bind fun t=>stoaref09_Encode.l0 k vs (vput vs.length) t [] 0) (fun k=>by rw [if_neg (by omega)]) (Ev.bind (rleast_ev vs hne hl) ?_)
 have key:∀ n i:Nat,i + n = vs.length → Ev (fun k=>stoaref09_Encode.l0 k vs (vput vs.length) (leastS vs) ((farS vs).take i) (i:Int)) (vput vs.length ++ vput (foldN (leastS vs)) ++ [((widS (farS vs):Nat):Int)] ++ packS (widS (farS vs)) (farS vs),0):=by
  intro n
  induction n with
  | zero =>
   intro i h
   rw [List.take_of_length_le (show (farS vs).length ≤ i by omega)]
   refine Ev.step (g:=fun k=>(stoaref01_Width.f k (farS vs)).bind fun t=>(stoaref01_Pack.f k t (farS vs)).bind fun bt=>(stoaref05_Fold.f (leastS vs)).bind fun u=>(stoaref02_Put.f k u).bind fun p=>(stoaref01_Cat.f k (vput vs.length) p).bind fun y=>if y.length < 140737488355328 then (stoaref01_Cat.f k (y ++ [t % 256]) bt.1).bind fun z=>some (z,0) else none) (fun k=>?_) (Ev.bind (rwidth_ev hu (by omega)) (Ev.bind (rpack hw (widS_self hu) (by omega)) ?_))
   ·rw [stoaref09_Encode.l0,if_neg (by omega)]
   ·rw [rfold_law hI]
    refine Ev.same (g:=fun k=>(stoaref02_Put.f k ((foldN (leastS vs):Nat):Int)).bind fun p=>(stoaref01_Cat.f k (vput vs.length) p).bind fun y=>if y.length < 140737488355328 then (stoaref01_Cat.f k (y ++ [((widS (farS vs):Nat):Int) % 256]) (packS (widS (farS vs)) (farS vs))).bind fun z=>some (z,(0:Int)) else none) (fun k=>rfl) (Ev.bind (rput_ev _ (foldN_lt hI)) (Ev.bind (cat_ev _ _ (by omega)) ?_))
    rw [show ((widS (farS vs):Nat):Int) % 256 = ((widS (farS vs):Nat):Int) by omega]
    refine Ev.same (g:=fun k=>(stoaref01_Cat.f k (vput vs.length ++ vput (foldN (leastS vs)) ++ [((widS (farS vs):Nat):Int)]) (packS (widS (farS vs)) (farS vs))).bind fun z=>some (z,(0:Int))) (fun k=>by rw [if_pos (by rw [List.length_append];omega)]) (Ev.bind (cat_ev _ _ (by simp only [List.length_append,List.length_singleton];omega)) (Ev.now _))
  | succ n ih =>
   intro i h
   have hi2:i < vs.length:=by omega
   have e:(farS vs)[i]'(by omega) = vs[i] - leastS vs:=by simp [farS]
   refine Ev.step (fun k=>?_) (ih (i + 1) (by omega))
   rw [stoaref09_Encode.l0,if_pos (by omega),if_pos (by omega),if_pos (by rw [List.length_take];omega),rd_at hi2,u64_dist (hi _ (List.getElem_mem hi2)) hI (leastS_le (List.getElem_mem hi2)),w64s i (by omega),← take_snoc (farS vs) i (by omega),e]
 exact key vs.length 0 (by omega)
theorem put11_ev (a b:List Int) (hl:a.length + b.length ≤ 140737488355328):Ev (fun k=>stoaref11_put.f k a b) (a ++ b):=by
 have key:∀ n i:Nat,i + n = b.length → Ev (fun k=>stoaref11_put.l0 k (a ++ b.take i) b (i:Int)) (a ++ b):=by
  intro n
  induction n with
  | zero =>
   intro i h
   refine Ev.step (fun k=>?_) (Ev.now _)
   rw [stoaref11_put.l0,if_neg (by omega),List.take_of_length_le (by omega)]
  | succ n ih =>
   intro i h
   have hi:i < b.length:=by omega
   refine Ev.step (fun k=>?_) (ih (i + 1) (by omega))
   rw [stoaref11_put.l0,if_pos (by omega),if_pos (by omega),if_pos (by rw [List.length_append,List.length_take];omega),rd_at hi,w64s i (by omega),List.append_assoc,take_snoc b i hi]
 have:=key b.length 0 (by omega)
 refine Ev.same (fun k=>?_) this
 unfold stoaref11_put.f
 rw [List.take_zero,List.append_nil]
 rfl
theorem sharedL_at:∀ (a b:List Int) (i:Nat),(∀ j,(h1:j < i) → ∀ (ha:j < a.length) (hb:j < b.length),a[j] = b[j]) → i ≤ a.length → i ≤ b.length → sharedL a b = i + sharedL (a.drop i) (b.drop i)
 | a,b,0,_,_,_=>by simp
 | [],b,i + 1,_,h,_=>by simp at h
 | a,[],i + 1,_,_,h=>by simp at h
 | x :: a,y :: b,i + 1,h,h1,h2=>by
  have e:=h 0 (by omega) (by simp) (by simp)
  simp at e
  have:=sharedL_at a b i (fun j hj ha hb=>by have:=h (j + 1) (by omega) (by simp;omega) (by simp;omega);simpa using this) (by simpa using h1) (by simpa using h2)
  simp only [sharedL,List.drop_succ_cons]
  rw [if_pos e,this]
  omega
theorem same11_ev (a b:List Int) (hl:a.length ≤ 140737488355328):Ev (fun k=>stoaref11_same.f k a b) ((sharedL a b:Nat):Int):=by
 have key:∀ n i:Nat,i + n = a.length → i ≤ b.length → (∀ j,(h1:j < i) → ∀ (ha:j < a.length) (hb:j < b.length),a[j] = b[j]) → Ev (fun k=>stoaref11_same.l0 k a b (i:Int)) ((sharedL a b:Nat):Int):=by
  intro n
  induction n with
  | zero =>
   intro i h hb hj
   have:=sharedL_at a b i hj (by omega) hb
   rw [List.drop_eq_nil_of_le (show a.length ≤ i by omega)] at this
   refine Ev.step (fun k=>?_) (Ev.now _)
   rw [stoaref11_same.l0,if_neg (by omega),this,show sharedL [] (b.drop i) = 0 by cases b.drop i <;> rfl]
   congr 1
   omega
  | succ n ih =>
   intro i h hb hj
   have hi:i < a.length:=by omega
   have hs:=sharedL_at a b i hj (by omega) hb
   rw [List.drop_eq_getElem_cons hi] at hs
   by_cases hib:i < b.length
   ·rw [List.drop_eq_getElem_cons hib] at hs
    simp only [sharedL] at hs
    by_cases he:a[i] = b[i]
    ·refine Ev.step (fun k=>?_) (ih (i + 1) (by omega) (by omega) (fun j hj1 ha hb2=>?_))
     ·rw [stoaref11_same.l0,if_pos (by omega),if_neg (by omega),if_pos (by omega),if_pos (by omega),rd_at hi,rd_at hib,if_pos he,w64s i (by omega)]
     ·by_cases e:j = i
      ·subst e;exact he
      ·exact hj j (by omega) ha hb2
    ·rw [if_neg he] at hs
     refine Ev.step (fun k=>?_) (Ev.now _)
     rw [stoaref11_same.l0,if_pos (by omega),if_neg (by omega),if_pos (by omega),if_pos (by omega),rd_at hi,rd_at hib,if_neg he,hs]
     rfl
   ·rw [List.drop_eq_nil_of_le (show b.length ≤ i by omega)] at hs
    simp only [sharedL] at hs
    refine Ev.step (fun k=>?_) (Ev.now _)
    rw [stoaref11_same.l0,if_pos (by omega),if_pos (by omega),hs]
    rfl
 exact key a.length 0 (by omega) (by omega) (fun j h=>by omega)
theorem preOne_length {last s:List Int} {whole:Bool} (h:s.length ≤ 200):(preOne last s whole).length ≤ 220:=by
 unfold preOne
 have h1:=vput_length (preK last s whole)
 have h2:=vput_length (s.length - preK last s whole)
 simp only [List.length_append,List.length_drop]
 omega
theorem encPreL_snoc_aux (last s:List Int):∀ (ss:List (List Int)) (x:List Int) (i:Nat),encPreL (i + 1) x (ss ++ [s]) = encPreL (i + 1) x ss ++ preOne ((x :: ss).getLast?.getD last) s (decide ((i + (x :: ss).length) % 16 = 0))
 | [],x,i=>by simp [encPreL]
 | y :: ss,x,i=>by
  rw [List.cons_append]
  simp only [encPreL]
  rw [encPreL_snoc_aux last s ss y (i + 1),List.append_assoc]
  have e:i + 1 + (y :: ss).length = i + (x :: y :: ss).length:=by simp only [List.length_cons];omega
  rw [e]
  simp
theorem encPreL_snoc (last s:List Int):∀ (ss:List (List Int)) (i:Nat),encPreL i last (ss ++ [s]) = encPreL i last ss ++ preOne (ss.getLast?.getD last) s (decide ((i + ss.length) % 16 = 0))
 | [],i=>by simp [encPreL]
 | x :: ss,i=>by
  rw [List.cons_append]
  simp only [encPreL]
  rw [encPreL_snoc_aux last s ss x i,List.append_assoc]
theorem encPreL_length:∀ (ss:List (List Int)) (i:Nat) (last:List Int),(∀ s ∈ ss,s.length ≤ 200) → (encPreL i last ss).length ≤ 220 * ss.length
 | [],_,_,_=>by simp [encPreL]
 | s :: ss,i,last,h=>by
  have h1:=preOne_length (last:=last) (whole:=decide (i % 16 = 0)) (h s (by simp))
  have h2:=encPreL_length ss (i + 1) s (fun x hx=>h x (by simp [hx]))
  simp only [encPreL]
  rw [List.length_append,List.length_cons]
  omega
theorem rpre_ev (ss:List (List Int)) (hl:ss.length ≤ 4096) (hs:∀ s ∈ ss,s.length ≤ 200):Ev (fun k=>stoaref11_Encode.f k ss) (encPre ss):=by
 have hv:=vput_length ss.length
 unfold encPre stoaref11_Encode.f
 rw [if_neg (by rintro (h | ⟨s,h1,h2⟩);omega;have:=hs s h1;omega)]
 refine Ev.same (g:=fun k=>(stoaref02_Put.f k ((ss.length:Nat):Int)).bind fun t=>stoaref11_Encode.l0 k ss t 0) (fun k=>by rw [if_neg (by omega),wraps_u64 _ (by omega) (by omega)]) (Ev.bind (rput_ev ss.length (by omega)) ?_)
 have key1:∀ n i:Nat,i + n = ss.length → Ev (fun k=>stoaref11_Encode.l1 k ss (vput ss.length ++ encPreL 0 [] (ss.take i)) (i:Int)) (vput ss.length ++ encPreL 0 [] ss,0):=by
  intro n
  induction n with
  | zero =>
   intro i h
   refine Ev.step (fun k=>?_) (Ev.now _)
   rw [stoaref11_Encode.l1,if_neg (by omega),List.take_of_length_le (by omega)]
  | succ n ih =>
   intro i h
   have hi:i < ss.length:=by omega
   have hsi:=hs ss[i] (List.getElem_mem hi)
   have hpl:=encPreL_length (ss.take i) 0 [] (fun x hx=>hs x (List.mem_of_mem_take hx))
   rw [List.length_take] at hpl
   have hlen:(vput ss.length ++ encPreL 0 [] (ss.take i)).length ≤ 1000000:=by rw [List.length_append];omega
   have hrec:=ih (i + 1) (by omega)
   rw [← take_snoc ss i hi,encPreL_snoc,List.length_take,Nat.zero_add,Nat.min_eq_left (by omega)] at hrec
   have tail:∀ K:Nat,K ≤ ss[i].length → preK ((ss.take i).getLast?.getD []) ss[i] (decide (i % 16 = 0)) = K → Ev (fun k=>stoaref11_Encode.j2 k ss (vput ss.length ++ encPreL 0 [] (ss.take i)) (i:Int) (K:Int)) (vput ss.length ++ encPreL 0 [] ss,0):=by
    intro K hK hpk
    unfold preOne at hrec
    rw [hpk,← List.append_assoc,← List.append_assoc] at hrec
    have h1:=vput_length K
    have h2:=vput_length (ss[i].length - K)
    refine Ev.step (g:=fun k=>(stoaref02_Put.f k (K:Int)).bind fun t=>(stoaref11_put.f k (vput ss.length ++ encPreL 0 [] (ss.take i)) t).bind fun y=>(stoaref02_Put.f k ((ss[i].length - K:Nat):Int)).bind fun t2=>(stoaref11_put.f k y t2).bind fun z=>(stoaref11_put.f k z (ss[i].drop K)).bind fun q=>stoaref11_Encode.l1 k ss q ((i + 1:Nat):Int)) (fun k=>?_) (Ev.bind (rput_ev _ (by omega)) (Ev.bind (put11_ev _ _ (by omega)) (Ev.bind (rput_ev (ss[i].length - K) (by omega)) (Ev.bind (put11_ev _ _ (by rw [List.length_append];omega)) (Ev.bind (put11_ev (vput ss.length ++ encPreL 0 [] (ss.take i) ++ vput K ++ vput (ss[i].length - K)) (ss[i].drop K) (by simp only [List.length_append,List.length_drop] at hlen ⊢;omega)) ?_)))))
    ·have c1:(0:Int) ≤ (i:Int):=by omega
     have c2:(i:Int) < (ss.length:Int):=by omega
     have c3:(0:Int) ≤ (K:Int):=by omega
     have c4:(K:Int) ≤ (ss[i].length:Int):=by omega
     rw [stoaref11_Encode.j2,wraps_u64 _ (by omega) (by omega),rd4_at hi,w64 (n:=(ss[i].length:Int) - K) (by omega) (by omega),wraps_u64 _ (by omega) (by omega),Int.toNat_natCast,w64s i (by omega),show ((ss[i].length:Int) - K) = ((ss[i].length - K:Nat):Int) by omega]
     simp only [if_pos c1,if_pos c2,if_pos c3,if_pos c4]
    ·simp only [List.append_assoc] at hrec ⊢
     exact hrec
   have hmod:Int.tmod (i:Int) 16 = ((i % 16:Nat):Int):=by rw [Int.tmod_eq_emod_of_nonneg (by omega)];omega
   by_cases h16:i % 16 = 0
   ·refine Ev.step (fun k=>?_) (tail 0 (by omega) (by unfold preK;rw [decide_eq_true h16];rfl))
    rw [stoaref11_Encode.l1,if_pos (by omega),hmod,if_pos (by omega)]
    rfl
   ·obtain ⟨j,rfl⟩:∃ j,i = j + 1:=⟨i - 1,by omega⟩
    have hj:j < ss.length:=by omega
    have hlast:(ss.take (j + 1)).getLast?.getD [] = ss[j]:=by rw [← take_snoc ss j hj,List.getLast?_concat];rfl
    have hsp:=sharedL_spec ss[j] ss[j + 1]
    refine Ev.step (g:=fun k=>(stoaref11_same.f k ss[j] ss[j + 1]).bind fun t=>stoaref11_Encode.j2 k ss (vput ss.length ++ encPreL 0 [] (ss.take (j + 1))) ((j + 1:Nat):Int) t) (fun k=>?_) (Ev.bind (same11_ev ss[j] ss[j + 1] (by have:=hs ss[j] (List.getElem_mem hj);omega)) (tail (sharedL ss[j] ss[j + 1]) hsp.2.1 (by unfold preK;rw [hlast,decide_eq_false h16];rfl)))
    rw [stoaref11_Encode.l1,if_pos (by omega),hmod,if_neg (by omega),wl j (by omega),if_pos (by omega),if_pos (by omega),if_pos (by omega),rd4_at hj,rd4_at hi]
 have key0:∀ n i:Nat,i + n = ss.length → Ev (fun k=>stoaref11_Encode.l0 k ss (vput ss.length) (i:Int)) (vput ss.length ++ encPreL 0 [] ss,0):=by
  intro n
  induction n with
  | zero =>
   intro i h
   have:=key1 ss.length 0 (by omega)
   rw [List.take_zero,show encPreL 0 [] [] = [] from rfl,List.append_nil] at this
   refine Ev.step (fun k=>?_) this
   rw [stoaref11_Encode.l0,if_neg (by omega)]
   rfl
  | succ n ih =>
   intro i h
   have hi:i < ss.length:=by omega
   have hsi:=hs ss[i] (List.getElem_mem hi)
   refine Ev.step (fun k=>?_) (ih (i + 1) (by omega))
   rw [stoaref11_Encode.l0,if_pos (by omega),if_pos (by omega),rd4_at hi,if_neg (by omega),w64s i (by omega)]
 exact key0 ss.length 0 (by omega)
structure Fine (kind:Int) (cs:List Cel):Prop where
 good:GoodKind kind
 len:cs.length ≤ 4096
 chk:∀ c ∈ cs,checkC kind c = 0
 ok:∀ c ∈ cs,CelOk c
theorem Fine.plainly {kind:Int} {cs:List Cel} (h:Fine kind cs):∀ c ∈ there cs,Plainly kind c:=fun c hc=>checkC_plainly (h.chk c (there_mem.1 hc).1) (h.ok c (there_mem.1 hc).1) (there_mem.1 hc).2
theorem Fine.nums {kind:Int} {cs:List Cel} (h:Fine kind cs):(numsC cs).length ≤ 4096 ∧ ∀ v ∈ numsC cs,I64 v:=by
 refine ⟨?_,fun v hv=>?_⟩
 ·unfold numsC
  rw [List.length_map]
  exact Nat.le_trans (List.length_filter_le _ _) h.len
 ·obtain ⟨c,hc,rfl⟩:=List.mem_map.1 hv
  exact (h.ok c (there_mem.1 hc).1).1
theorem Fine.texts {kind:Int} {cs:List Cel} (h:Fine kind cs):(textsC cs).length ≤ 4096 ∧ ∀ s ∈ textsC cs,Bys s:=by
 refine ⟨?_,fun v hv=>?_⟩
 ·unfold textsC
  rw [List.length_map]
  exact Nat.le_trans (List.length_filter_le _ _) h.len
 ·obtain ⟨c,hc,rfl⟩:=List.mem_map.1 hv
  exact (h.ok c (there_mem.1 hc).1).2.1
theorem Fine.short {kind:Int} {cs:List Cel} (h:Fine kind cs) (hk:6 < kind):∀ s ∈ textsC cs,s.length ≤ 200:=by
 intro v hv
 obtain ⟨c,hc,rfl⟩:=List.mem_map.1 hv
 have:=h.plainly c hc
 unfold Plainly at this
 rw [if_neg (by omega)] at this
 exact this.2
theorem Bys.nil:Bys []:=fun x hx=>(by cases hx)
theorem Bys.one {x:Int} (h:0 ≤ x ∧ x < 256):Bys [x]:=fun y hy=>by rw [List.mem_singleton.1 hy];exact h
theorem Bys.flat {α:Type} {f:α → List Int}:∀ {l:List α},(∀ a ∈ l,Bys (f a)) → Bys ((l.map f).flatten)
 | [],_=>Bys.nil
 | a :: l,h=>by
  rw [List.map_cons,List.flatten_cons]
  exact (h a (by simp)).append (Bys.flat (fun b hb=>h b (by simp [hb])))
theorem encRuns_bys {vs:List Int} (hl:vs.length ≤ 4096) (hi:∀ v ∈ vs,I64 v):Bys (encRuns vs).1 ∧ (encRuns vs).1.length ≤ 100000:=by
 have h1:=rle_length vs
 have h2:=runsB_length (rle vs)
 have h3:=vput_length (rle vs).length
 unfold encRuns
 rw [if_pos hl]
 refine ⟨(vput_bys _ (by omega)).append (Bys.flat fun r hr=>?_),by simp only [List.length_append];omega⟩
 have:=rle_mem hr
 exact (vput_bys _ (foldN_lt (hi _ this.1))).append (vput_bys _ (by omega))
theorem encPk_bys {vs:List Int} (hl:vs.length ≤ 4096) (hi:∀ v ∈ vs,I64 v):Bys (encPk vs).1 ∧ (encPk vs).1.length ≤ 100000:=by
 unfold encPk
 rw [if_neg (by omega)]
 by_cases h0:vs.length = 0
 ·rw [if_pos h0]
  exact ⟨vput_bys 0 (by decide),by have:=vput_length 0;simp only;omega⟩
 rw [if_neg h0]
 have hne:vs ≠ []:=fun e=>h0 (by rw [e];rfl)
 have hu:=farS_u64 hi
 have hw:=widS_le hu
 have h1:=vput_length vs.length
 have h2:=vput_length (foldN (leastS vs))
 have h3:=packS_short (widS (farS vs)) (farS vs) hw (by simp [farS];omega)
 refine ⟨(((vput_bys _ (by omega)).append (vput_bys _ (foldN_lt (hi _ (leastS_mem hne))))).append (Bys.one (by omega))).append (packS_bys _ _),by simp only [List.length_append,List.length_singleton];omega⟩
theorem encS_bys {ss:List (List Int)} (hl:ss.length ≤ 4096) (hs:∀ s ∈ ss,s.length ≤ 200) (hb:∀ s ∈ ss,Bys s):Bys (encS ss).1 ∧ (encS ss).1.length ≤ 1000000:=by
 have hid:(idx ss).2.2 = 0:=by
  unfold idx
  rw [if_neg]
  rintro (h | ⟨s,h1,h⟩)
  ·omega
  ·have:=hs s h1;omega
 obtain ⟨_,_,h3,h4⟩:=idx_ok hid
 have hel:=ents_length ss
 have h5:=ones_length (ents ss) (fun s h=>hs s (ents_mem.1 h))
 have h6:=vput_length (ents ss).length
 have h7:=vput_length (idx ss).2.1.length
 have h8:=packS_short (wid (ents ss).length) (idx ss).2.1 (by have:=wid_le (ents ss).length (by omega);omega) (by rw [h4,List.length_map];exact hl)
 have h9:(idx ss).2.1.length = ss.length:=by rw [h4,List.length_map]
 unfold encS
 rw [if_pos hid]
 unfold encB
 rw [h3]
 refine ⟨(((vput_bys _ (by omega)).append (Bys.flat fun s h=>?_)).append (vput_bys _ (by omega))).append (packS_bys _ _),by simp only [List.length_append];omega⟩
 have h10:=hs s (ents_mem.1 h)
 exact (vput_bys _ (by omega)).append (hb s (ents_mem.1 h))
theorem encPreL_bys:∀ (ss:List (List Int)) (i:Nat) (last:List Int),(∀ s ∈ ss,s.length ≤ 200) → (∀ s ∈ ss,Bys s) → Bys (encPreL i last ss)
 | [],_,_,_,_=>Bys.nil
 | s :: ss,i,last,hs,hb=>by
  simp only [encPreL]
  refine Bys.append ?_ (encPreL_bys ss (i + 1) s (fun x hx=>hs x (by simp [hx])) (fun x hx=>hb x (by simp [hx])))
  have h1:=hs s (by simp)
  have hk:preK last s (decide (i % 16 = 0)) ≤ s.length:=by
   unfold preK
   split
   ·omega
   ·exact (sharedL_spec last s).2.1
  exact ((vput_bys _ (by omega)).append (vput_bys _ (by omega))).append ((hb s (by simp)).drop _)
theorem encPre_bys {ss:List (List Int)} (hl:ss.length ≤ 4096) (hs:∀ s ∈ ss,s.length ≤ 200) (hb:∀ s ∈ ss,Bys s):Bys (encPre ss).1 ∧ (encPre ss).1.length ≤ 1000000:=by
 have h1:=encPreL_length ss 0 [] hs
 have h2:=vput_length ss.length
 unfold encPre
 rw [if_neg (by rintro (h | ⟨s,h1,h2⟩);omega;have:=hs s h1;omega)]
 exact ⟨(vput_bys _ (by omega)).append (encPreL_bys ss 0 [] hs hb),by simp only [List.length_append];omega⟩
theorem plainC_bys {kind:Int} {c:Cel} (h:Plainly kind c) (ok:CelOk c):Bys (plainC kind c):=by
 unfold plainC Plainly at *
 split
 ·rename_i hk
  rw [if_pos hk] at h
  exact vput_bys _ (foldN_lt h.2)
 ·rename_i hk
  rw [if_neg hk] at h
  have:=h.2
  exact (vput_bys _ (by omega)).append ok.2.1
theorem body_fine {kind codec:Int} {cs:List Cel} (h:Fine kind cs) (hf:fitsC kind codec):Bys (bodyS kind codec cs).1 ∧ (bodyS kind codec cs).1.length ≤ 1000000 ∧ (bodyS kind codec cs).2 = 0:=by
 have h2:=(cells_fwd hf h.len h.plainly).1
 refine (fun (x:Bys (bodyS kind codec cs).1 ∧ (bodyS kind codec cs).1.length ≤ 1000000)=>⟨x.1,x.2,h2⟩) ?_
 have htl:(there cs).length ≤ cs.length:=List.length_filter_le _ _
 have hl:=h.len
 unfold bodyS
 by_cases e2:codec = 2
 ·rw [if_pos e2]
  have:=encRuns_bys h.nums.1 h.nums.2
  exact ⟨this.1,by omega⟩
 rw [if_neg e2]
 by_cases e3:codec = 3
 ·rw [if_pos e3]
  have:=encPk_bys h.nums.1 h.nums.2
  exact ⟨this.1,by omega⟩
 rw [if_neg e3]
 by_cases e4:codec = 4
 ·rw [if_pos e4]
  exact encS_bys h.texts.1 (h.short (by unfold fitsC at hf;omega)) h.texts.2
 rw [if_neg e4]
 by_cases e5:codec = 5
 ·rw [if_pos e5]
  exact encPre_bys h.texts.1 (h.short (by unfold fitsC at hf;omega)) h.texts.2
 rw [if_neg e5]
 have h3:=plainS_length h.plainly
 refine ⟨Bys.flat fun c hc=>plainC_bys (h.plainly c hc) (h.ok c (there_mem.1 hc).1),?_⟩
 show (plainS kind cs).length ≤ _
 unfold plainS
 omega
theorem nullsS_fine {cs:List Cel} (hl:cs.length ≤ 4096):Bys (nullsS cs) ∧ (nullsS cs).length ≤ 50000:=by
 have:=packS_short 1 (cs.map markC) (by decide) (by rw [List.length_map];exact hl)
 unfold nullsS
 split
 ·exact ⟨(Bys.one (by decide)).append (packS_bys _ _),by rw [List.length_cons];omega⟩
 ·exact ⟨Bys.one (by decide),by decide⟩
theorem fits_codec {kind codec:Int} (h:fitsC kind codec):1 ≤ codec ∧ codec ≤ 5:=by unfold fitsC at h;omega
theorem head_fine {kind codec:Int} {cs:List Cel} (hl:cs.length ≤ 4096) (hf:fitsC kind codec):Bys (headS codec cs) ∧ (headS codec cs).length ≤ 60000:=by
 have h1:=fits_codec hf
 have h2:=nullsS_fine hl
 have h3:=vput_length cs.length
 unfold headS
 exact ⟨(Bys.one (by omega)).append ((vput_bys _ (by omega)).append h2.1),by simp only [List.length_cons,List.length_append];omega⟩
theorem fine_of {kind:Int} {cs:List Cel} (hk:¬ (kind < 1 ∨ 8 < kind)) (hc:checkCs kind cs = 0) (hok:∀ c ∈ cs,CelOk c):Fine kind cs:=⟨⟨by omega,by omega⟩,(checkCs_zero.1 hc).1,(checkCs_zero.1 hc).2,hok⟩
end Go.Proofs.YteeikgjjgfdjgaaGreat.PK
end
