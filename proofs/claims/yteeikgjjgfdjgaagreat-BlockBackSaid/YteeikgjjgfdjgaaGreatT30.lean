/-
  Parts of the proof: Xb.
-/
import Derived.Test.YteeikgjjgfdjgaaGreatT13
import Derived.Test.YteeikgjjgfdjgaaGreatT8
import Derived.Test.YteeikgjjgfdjgaaGreatT29
import Derived.Test.YteeikgjjgfdjgaaGreatT23
import Derived.Test.YteeikgjjgfdjgaaGreatT15
section
namespace Go.Proofs.YteeikgjjgfdjgaaGreat.PK
open Go.RowKit Go.Proofs.YteeikgjjgfdjgaaGreatW.PrintWords Go.Proofs.YteeikgjjgfdjgaaGreatW.PrintLast Go.Proofs.YteeikgjjgfdjgaaGreatW.PrintMore
set_option linter.unusedVariables false
set_option linter.unusedSimpArgs false
theorem same_ev (a:List Int) (hl:a.length≤140737488355328):Ev (fun k=>yau.f k a a) true:=⟨a.length+1,fun k hk=>by show yau.f k a a=some true;rw[yoq a a (by omega) k hk];simp⟩
theorem yph (cs:List Cel) (hl:cs.length≤140737488355328) (hb:∀ c∈cs,c.f2.length≤140737488355328):Ev (fun k=>yax.f k cs cs) true:=by
 have key:∀ n i:Nat,i+n=cs.length→Ev (fun k=>yax.l0 k cs cs (i:Int)) true:=by
  intro n
  induction n with
  | zero =>
   intro i h
   refine Ev.step (fun k=>?_) (Ev.now _)
   rw[yax.l0,if_neg (by omega)]
  | succ n ih =>
   intro i h
   have hi:i<cs.length:=by omega
   have h1:Ev (fun k=>yer.f k cs[i].f0 cs[i].f1 cs[i].f2 cs[i].f0 cs[i].f1 cs[i].f2) true:=by
    refine Ev.same (fun k=>?_) (Ev.bind (f:=fun _ t=>some t) (same_ev cs[i].f2 (hb _ (List.getElem_mem hi))) (Ev.now _))
    unfold yer.f
    rw[if_pos (by simp),if_pos rfl]
   refine Ev.step (fun k=>?_) (Ev.bind (f:=fun k t=>if t=true then yax.l0 k cs cs ((i:Int)+1) else some false) h1 ?_)
   ·show yax.l0 (k+1) cs cs (i:Int)=_
    rw[yax.l0,if_pos (by omega),if_pos (by omega),if_pos (by omega),ygb hi]
    refine congrArg _ (funext fun t=>?_)
    rw[w64s i (by omega)];rfl
   ·have:=ih (i+1) (by omega)
    simpa using this
 have:=key cs.length 0 (by omega)
 refine Ev.same (fun k=>?_) this
 unfold yax.f
 rw[if_pos rfl]
 rfl
end Go.Proofs.YteeikgjjgfdjgaaGreat.PK
end
