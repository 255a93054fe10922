/-
  Parts of the proof: Xb.
-/
import Derived.Test.YteeikgjjgfdjgaaGreatV26
import Derived.Test.YteeikgjjgfdjgaaGreatV20
section
namespace Go.Proofs.YteeikgjjgfdjgaaGreat.PK
open Go.RowKit YteeikgjjgfdjgaaGreatW.PrintWords YteeikgjjgfdjgaaGreatW.PrintLast YteeikgjjgfdjgaaGreatW.PrintMore
set_option linter.unusedVariables false
set_option linter.unusedSimpArgs false
theorem copy_ev (l:List Int) (hl:l.length≤140737488355328):Ev (fun k=>yay.f k l) l:=⟨l.length+1,fun k hk=>yo5 l hl k hk⟩
theorem same_ev (a:List Int) (hl:a.length≤140737488355328):Ev (fun k=>ya3.f k a a) true:=⟨a.length+1,fun k hk=>by show ya3.f k a a=some true;rw[yo6 a a (by omega) k hk];simp⟩
def yev (n:Nat):List Int:=(List.range n).map fun i=>192+((i%7:Nat):Int)
theorem yh7 (n:Nat):(yev n).length=n:=by simp [yev]
theorem ype (n:Nat):yev (n+1)=yev n++[192+((n%7:Nat):Int)]:=by simp [yev,List.range_succ]
theorem mark_eq (i:Nat) (hi:i<64):(wrap64 (192+(Int.tmod (i:Int) 7)))%256=192+((i%7:Nat):Int):=by
 rw[Int.tmod_eq_emod_of_nonneg (by omega),w64 (by omega) (by omega)]
 omega
theorem wide_ev (l:List Int) (hl:l.length≤140737488351232):Ev (fun k=>yci.f k l) (l++yev 64):=by
 have key:∀ n i:Nat,i+n=64→Ev (fun k=>yci.l0 k (l++yev i) (i:Int)) (l++yev 64):=by
  intro n
  induction n with
  | zero =>
   intro i h
   refine Ev.step (fun k=>?_) (Ev.now _)
   rw[yci.l0,if_neg (by omega),show i=64 by omega]
  | succ n ih =>
   intro i h
   refine Ev.step (fun k=>?_) (ih (i+1) (by omega))
   rw[yci.l0,if_pos (by omega),if_pos (by rw[List.length_append,yh7];omega),mark_eq i (by omega),w64s i (by omega),ype,List.append_assoc]
 have:=key 64 0 (by omega)
 refine Ev.bind (f:=fun k t=>yci.l0 k t 0) (copy_ev l (by omega)) ?_
 simpa [yev] using this
theorem intact_ev (l:List Int) (hl:l.length≤140737488351232):Ev (fun k=>ya7.f k (l++yev 64) l) true:=by
 have hlen:(l++yev 64).length=l.length+64:=by rw[List.length_append,yh7]
 have key1:∀ n i:Nat,i+n=64→Ev (fun k=>ya7.l1 k (l++yev 64) l (i:Int)) true:=by
  intro n
  induction n with
  | zero =>
   intro i h
   refine Ev.step (fun k=>?_) (Ev.now _)
   rw[ya7.l1,if_neg (by omega)]
  | succ n ih =>
   intro i h
   refine Ev.step (fun k=>?_) (ih (i+1) (by omega))
   have hr:rd (l++yev 64) ((l.length:Int)+(i:Int))=192+((i%7:Nat):Int):=by
    rw[show(l.length:Int)+(i:Int)=((l.length+i:Nat):Int) by omega,ybj (show l.length+i<(l++yev 64).length by omega)]
    rw[List.getElem_append_right (by omega)]
    simp [yev]
   rw[ya7.l1,if_pos (by omega),w64 (show -9223372036854775808≤(l.length:Int)+(i:Int) by omega) (by omega),if_pos (by omega),if_pos (by rw[hlen];omega),hr,mark_eq i (by omega),if_pos rfl,w64s i (by omega)]
 have key:∀ n i:Nat,i+n=l.length→Ev (fun k=>ya7.l0 k (l++yev 64) l (i:Int)) true:=by
  intro n
  induction n with
  | zero =>
   intro i h
   refine Ev.step (fun k=>?_) (key1 64 0 (by omega))
   rw[ya7.l0,if_neg (by omega)]
   rfl
  | succ n ih =>
   intro i h
   have hi:i<l.length:=by omega
   refine Ev.step (fun k=>?_) (ih (i+1) (by omega))
   rw[ya7.l0,if_pos (by omega),if_pos (by omega),if_pos (by rw[hlen];omega),ybj (show i<(l++yev 64).length by omega),ybj hi,List.getElem_append_left hi,if_pos rfl,w64s i (by omega)]
 refine Ev.same (fun k=>?_) (key l.length 0 (by omega))
 unfold ya7.f
 rw[w64 (show -9223372036854775808≤(l.length:Int)+64 by omega) (by omega),if_pos (by rw[hlen];omega)]
 rfl
end Go.Proofs.YteeikgjjgfdjgaaGreat.PK
end
