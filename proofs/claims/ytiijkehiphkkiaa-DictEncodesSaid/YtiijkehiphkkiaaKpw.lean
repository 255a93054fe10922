/-
  The reference's width: plain law.
-/
import Derived.Test.YtiijkehiphkkiaaKp
import Derived.Test.YtiijkehiphkkiaaD6w
namespace Go.Proofs.Ytiijkehiphkkiaa.PD
open Go.RowKit Go.Proofs.YtiijkehiphkkiaaW.PrintWords Go.Proofs.YtiijkehiphkkiaaW.PrintLast Go.Proofs.YtiijkehiphkkiaaW.PrintMore
set_option linter.unusedVariables false
set_option linter.unusedSimpArgs false

theorem rwidth_law (n : Nat) (hn : n ≤ 4611686018427387904) : Ev (fun k => stoaref10_width.f k (n : Int)) ((wid n : Nat) : Int) := by
  by_cases h0 : n = 0
  · subst h0
    refine Ev.same (fun k => ?_) (Ev.now _)
    unfold stoaref10_width.f
    rw [if_pos (show ((0 : Nat) : Int) = 0 from rfl)]
    rfl
  · refine Ev.same (g := fun k => (stoaref01_Width.f k [((n - 1 : Nat) : Int)]).bind fun t => some t) (fun k => ?_) (Ev.bind (rwidth_one (n - 1) (by omega)) (Ev.now _))
    unfold stoaref10_width.f
    rw [if_neg (by omega), w64 (by omega) (by omega), wraps_u64 _ (by omega) (by omega), show (n : Int) - 1 = ((n - 1 : Nat) : Int) from by omega]

end Go.Proofs.Ytiijkehiphkkiaa.PD
