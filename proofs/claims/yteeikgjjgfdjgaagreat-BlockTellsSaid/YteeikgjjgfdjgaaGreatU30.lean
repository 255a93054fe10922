/-
  Parts of the proof: Xb.
-/
import Derived.Test.YteeikgjjgfdjgaaGreatU29
import Derived.Test.YteeikgjjgfdjgaaGreatU23
section
namespace Go.Proofs.YteeikgjjgfdjgaaGreat.PK
open Go.RowKit YteeikgjjgfdjgaaGreatW.PrintWords YteeikgjjgfdjgaaGreatW.PrintLast YteeikgjjgfdjgaaGreatW.PrintMore
set_option linter.unusedVariables false
set_option linter.unusedSimpArgs false
theorem copy_ev (l:List Int) (hl:l.length≤140737488355328):Ev (fun k=>yas.f k l) l:=⟨l.length+1,fun k hk=>yox l hl k hk⟩
theorem same_ev (a:List Int) (hl:a.length≤140737488355328):Ev (fun k=>yay.f k a a) true:=⟨a.length+1,fun k hk=>by show yay.f k a a=some true;rw[ylw a a (by omega) k hk];simp⟩
theorem yp8 (cs:List Cel) (hl:cs.length≤140737488355328) (hb:∀ c∈cs,c.f2.length≤140737488355328):Ev (fun k=>ya2.f k cs cs) true:=by
 have key:∀ n i:Nat,i+n=cs.length→Ev (fun k=>ya2.l0 k cs cs (i:Int)) true:=by
  intro n
  induction n with
  | zero =>
   intro i h
   refine Ev.step (fun k=>?_) (Ev.now _)
   rw[ya2.l0,if_neg (by omega)]
  | succ n ih =>
   intro i h
   have hi:i<cs.length:=by omega
   have h1:Ev (fun k=>yev.f k cs[i].f0 cs[i].f1 cs[i].f2 cs[i].f0 cs[i].f1 cs[i].f2) true:=by
    refine Ev.same (fun k=>?_) (Ev.bind (f:=fun _ t=>some t) (same_ev cs[i].f2 (hb _ (List.getElem_mem hi))) (Ev.now _))
    unfold yev.f
    rw[if_pos (by simp),if_pos rfl]
   refine Ev.step (fun k=>?_) (Ev.bind (f:=fun k t=>if t=true then ya2.l0 k cs cs ((i:Int)+1) else some false) h1 ?_)
   ·show ya2.l0 (k+1) cs cs (i:Int)=_
    rw[ya2.l0,if_pos (by omega),if_pos (by omega),if_pos (by omega),ygj hi]
    refine congrArg _ (funext fun t=>?_)
    rw[w64s i (by omega)];rfl
   ·have:=ih (i+1) (by omega)
    simpa using this
 have:=key cs.length 0 (by omega)
 refine Ev.same (fun k=>?_) this
 unfold ya2.f
 rw[if_pos rfl]
 rfl
end Go.Proofs.YteeikgjjgfdjgaaGreat.PK
end
