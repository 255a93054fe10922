/-
  Parts of the proof: Xb.
-/
import Derived.Test.YteeikgjjgfdjgaaGreatR13
import Derived.Test.YteeikgjjgfdjgaaGreatR8
import Derived.Test.YteeikgjjgfdjgaaGreatR29
import Derived.Test.YteeikgjjgfdjgaaGreatR23
import Derived.Test.YteeikgjjgfdjgaaGreatR15
section
namespace Go.Proofs.YteeikgjjgfdjgaaGreat.PK
open Go.RowKit Go.Proofs.YteeikgjjgfdjgaaGreatW.PrintWords Go.Proofs.YteeikgjjgfdjgaaGreatW.PrintLast Go.Proofs.YteeikgjjgfdjgaaGreatW.PrintMore
set_option linter.unusedVariables false
set_option linter.unusedSimpArgs false
theorem copy_ev (l:List Int) (hl:l.length ≤ 140737488355328):Ev (fun k=>stoaref01_Copy.f k l) l:=⟨l.length + 1,fun k hk=>copy_law l hl k hk⟩
theorem same_ev (a:List Int) (hl:a.length ≤ 140737488355328):Ev (fun k=>stoaref01_Same.f k a a) true:=⟨a.length + 1,fun k hk=>by show stoaref01_Same.f k a a = some true;rw [same_law a a (by omega) k hk];simp⟩
theorem twinrow_ev (cs:List Cel) (hl:cs.length ≤ 3518437208880) (hb:∀ c ∈ cs,c.f2.length ≤ 140737488355328):Ev (fun k=>stoaref05_TwinRow.f k cs) cs:=by
 have key:∀ n i:Nat,i + n = cs.length → Ev (fun k=>stoaref05_TwinRow.l0 k cs (cs.take i) (i:Int)) cs:=by
  intro n
  induction n with
  | zero =>
   intro i h
   refine Ev.step (fun k=>?_) (Ev.now _)
   rw [stoaref05_TwinRow.l0,if_neg (by omega),List.take_of_length_le (by omega)]
  | succ n ih =>
   intro i h
   have hi:i < cs.length:=by omega
   have h1:Ev (fun k=>stoaref05_Twin.f k cs[i].f0 cs[i].f1 cs[i].f2) (cs[i].f0,cs[i].f1,cs[i].f2):=Ev.bind (copy_ev cs[i].f2 (hb _ (List.getElem_mem hi))) (Ev.now _)
   refine Ev.step (fun k=>?_) (Ev.bind (f:=fun k bt=>stoaref05_TwinRow.l0 k cs (cs.take i ++ [(⟨bt.1,bt.2.1,bt.2.2⟩:Cel)]) ((i:Int) + 1)) h1 ?_)
   ·show stoaref05_TwinRow.l0 (k + 1) cs (cs.take i) (i:Int) = _
    rw [stoaref05_TwinRow.l0,if_pos (by omega),if_pos (by omega),rdc_at hi]
    refine congrArg _ (funext fun bt=>?_)
    rw [if_pos (by rw [List.length_take];omega),w64s i (by omega)];rfl
   ·have:=ih (i + 1) (by omega)
    rw [← take_snoc cs i hi] at this
    exact this
 have:=key cs.length 0 (by omega)
 rw [List.take_zero] at this
 exact this
theorem alikerow_ev (cs:List Cel) (hl:cs.length ≤ 140737488355328) (hb:∀ c ∈ cs,c.f2.length ≤ 140737488355328):Ev (fun k=>stoaref05_AlikeRow.f k cs cs) true:=by
 have key:∀ n i:Nat,i + n = cs.length → Ev (fun k=>stoaref05_AlikeRow.l0 k cs cs (i:Int)) true:=by
  intro n
  induction n with
  | zero =>
   intro i h
   refine Ev.step (fun k=>?_) (Ev.now _)
   rw [stoaref05_AlikeRow.l0,if_neg (by omega)]
  | succ n ih =>
   intro i h
   have hi:i < cs.length:=by omega
   have h1:Ev (fun k=>stoaref05_Alike.f k cs[i].f0 cs[i].f1 cs[i].f2 cs[i].f0 cs[i].f1 cs[i].f2) true:=by
    refine Ev.same (fun k=>?_) (Ev.bind (f:=fun _ t=>some t) (same_ev cs[i].f2 (hb _ (List.getElem_mem hi))) (Ev.now _))
    unfold stoaref05_Alike.f
    rw [if_pos (by simp),if_pos rfl]
   refine Ev.step (fun k=>?_) (Ev.bind (f:=fun k t=>if t = true then stoaref05_AlikeRow.l0 k cs cs ((i:Int) + 1) else some false) h1 ?_)
   ·show stoaref05_AlikeRow.l0 (k + 1) cs cs (i:Int) = _
    rw [stoaref05_AlikeRow.l0,if_pos (by omega),if_pos (by omega),if_pos (by omega),rdc_at hi]
    refine congrArg _ (funext fun t=>?_)
    rw [w64s i (by omega)];rfl
   ·have:=ih (i + 1) (by omega)
    simpa using this
 have:=key cs.length 0 (by omega)
 refine Ev.same (fun k=>?_) this
 unfold stoaref05_AlikeRow.f
 rw [if_pos rfl]
 rfl
end Go.Proofs.YteeikgjjgfdjgaaGreat.PK
end
