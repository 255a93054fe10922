/-
  Parts of the proof: AKpw, AKpr.
-/
import Derived.Test.YteeikgjjgfdjgaaGreatS6
import Derived.Test.YteeikgjjgfdjgaaGreatS7
import Derived.Test.YteeikgjjgfdjgaaGreatS10
section
namespace Go.Proofs.YteeikgjjgfdjgaaGreat.PK
open Go.RowKit Go.Proofs.YteeikgjjgfdjgaaGreatW.PrintWords Go.Proofs.YteeikgjjgfdjgaaGreatW.PrintLast Go.Proofs.YteeikgjjgfdjgaaGreatW.PrintMore
set_option linter.unusedVariables false
set_option linter.unusedSimpArgs false
end Go.Proofs.YteeikgjjgfdjgaaGreat.PK
end
