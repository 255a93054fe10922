/-
  Parts of the proof: AKpw, AKpr.
-/
import Derived.Test.YteeikgjjgfdjgaaGreatV12
section
namespace Go.Proofs.YteeikgjjgfdjgaaGreat.PK
open Go.RowKit YteeikgjjgfdjgaaGreatW.PrintWords YteeikgjjgfdjgaaGreatW.PrintLast YteeikgjjgfdjgaaGreatW.PrintMore
set_option linter.unusedVariables false
set_option linter.unusedSimpArgs false
theorem yqz (n:Nat) (hn:n≤4611686018427387904):Ev (fun k=>ydf.f k (n:Int)) ((wid n:Nat):Int):=by
 by_cases h0:n=0
 ·subst h0
  refine Ev.same (fun k=>?_) (Ev.now _)
  unfold ydf.f
  rw[if_pos (show((0:Nat):Int)=0 from rfl)]
  rfl
 ·refine Ev.same (g:=fun k=>(yal.f k [((n-1:Nat):Int)]).bind fun t=>some t) (fun k=>?_) (Ev.bind (yq1 (n-1) (by omega)) (Ev.now _))
  unfold ydf.f
  rw[if_neg (by omega),w64 (by omega) (by omega),wraps_u64 _ (by omega) (by omega),show(n:Int)-1=((n-1:Nat):Int) from by omega]
end Go.Proofs.YteeikgjjgfdjgaaGreat.PK
end
