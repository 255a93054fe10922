/-
  Parts of the proof: Xb.
-/
import Derived.Test.YteeikgjjgfdjgaaGreatS9
import Derived.Test.YteeikgjjgfdjgaaGreatS7
import Derived.Test.YteeikgjjgfdjgaaGreatS22
import Derived.Test.YteeikgjjgfdjgaaGreatS16
import Derived.Test.YteeikgjjgfdjgaaGreatS10
section
namespace Go.Proofs.YteeikgjjgfdjgaaGreat.PK
open Go.RowKit Go.Proofs.YteeikgjjgfdjgaaGreatW.PrintWords Go.Proofs.YteeikgjjgfdjgaaGreatW.PrintLast Go.Proofs.YteeikgjjgfdjgaaGreatW.PrintMore
set_option linter.unusedVariables false
set_option linter.unusedSimpArgs false
theorem copy_ev (l:List Int) (hl:l.length ≤ 140737488355328):Ev (fun k=>stoaref01_Copy.f k l) l:=⟨l.length + 1,fun k hk=>copy_law l hl k hk⟩
theorem same_ev (a:List Int) (hl:a.length ≤ 140737488355328):Ev (fun k=>stoaref01_Same.f k a a) true:=⟨a.length + 1,fun k hk=>by show stoaref01_Same.f k a a = some true;rw [same_law a a (by omega) k hk];simp⟩
end Go.Proofs.YteeikgjjgfdjgaaGreat.PK
end
