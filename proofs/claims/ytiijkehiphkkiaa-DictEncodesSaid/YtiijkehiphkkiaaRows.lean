/-
  No cell of these rows narrows 'for every input' (looked for: loops, veiled, ifaces, maps, wideKeys, modest, calm, conditions, laid).
  DERIVED. THE GIVEN ROWS OF THIS SEAT. 8 by the template 'for every input the law returns true; each argument reads behind the call as it read before'; 0 by the template 'total and deterministic' (their statements: YtiijkehiphkkiaaTotals.lean).
  GIVEN WITH THE SEED: the statements are not yours to turn. If you find one false, say at which input.
  Laid BY PROGRAM, IN A SANDBOX (cutbox-rows.mjs): the forced cells as the released guide's own fill.sh prints them over the translation 912920f30cf76748… (all of the seat's roots in one cut). By AI agents, Wed Nov 11 2026. No macro, syntax, notation, axiom, sorry.
-/
import Derived.Test.YtiijkehiphkkiaaChecked
import GoSem.Claim
import GoSem.ClaimJoined
import GoSem.ClaimMapViews
import Derived.JoinedTies
import Derived.KernelRfl
namespace Go.Proofs.Ytiijkehiphkkiaa
/- THE CELL 'sum', in the pinned program and in every row, IS THE sha256 OF THE DUMP (.gsa) THAT YtiijkehiphkkiaaProg.lean LOADS. Nothing in Lean hashes anything: it is a label: what it is worth is what the hold of that sum in a sandbox is worth. -/
noncomputable def Try.pinned : Pinned := { name := "ytiijkehiphkkiaa", sum := "912920f30cf767481d79ae348e75be7e6fc26e5e92967b3ae077501d166f3316", checked := Try.checked }
namespace Rows
def none {H : Type} : Left H := { results := [], args := [] }

/-- 'stoalaw17.MvccEnds': WHATEVER THE INPUT: true; the input reads as it did. -/
def mvccEndsSpec : ChangeSpec := { name := "mvccEnds", fn := fun _ => fun
  | [d] => { results := [.lit (.bool true)], args := [d] }
  | _ => none }
def mvccEndsRow : OpenClaim := { program := "ytiijkehiphkkiaa", sum := "912920f30cf767481d79ae348e75be7e6fc26e5e92967b3ae077501d166f3316", func := "stoa/stoalaw17.MvccEnds", spec := "mvccEnds", unfollowed := true, recurses := true, apart := false }
def MvccEndsSaid : Prop := mvccEndsRow.holds Try.pinned (OpenSpec.ofChange mvccEndsSpec)

/-- ITS FALSE NEIGHBOUR: 'it returns false'. Refute it at one input. -/
def mvccEndsWrong : ChangeSpec := { name := "mvccEnds", fn := fun _ => fun
  | [d] => { results := [.lit (.bool false)], args := [d] }
  | _ => none }
def MvccEndsWrongFalsely : Prop := mvccEndsRow.holds Try.pinned (OpenSpec.ofChange mvccEndsWrong)

/-- 'stoalaw17.MvccRises': WHATEVER THE INPUT: true; the input reads as it did. -/
def mvccRisesSpec : ChangeSpec := { name := "mvccRises", fn := fun _ => fun
  | [d] => { results := [.lit (.bool true)], args := [d] }
  | _ => none }
def mvccRisesRow : OpenClaim := { program := "ytiijkehiphkkiaa", sum := "912920f30cf767481d79ae348e75be7e6fc26e5e92967b3ae077501d166f3316", func := "stoa/stoalaw17.MvccRises", spec := "mvccRises", unfollowed := true, recurses := true, apart := false }
def MvccRisesSaid : Prop := mvccRisesRow.holds Try.pinned (OpenSpec.ofChange mvccRisesSpec)

/-- ITS FALSE NEIGHBOUR: 'it returns false'. Refute it at one input. -/
def mvccRisesWrong : ChangeSpec := { name := "mvccRises", fn := fun _ => fun
  | [d] => { results := [.lit (.bool false)], args := [d] }
  | _ => none }
def MvccRisesWrongFalsely : Prop := mvccRisesRow.holds Try.pinned (OpenSpec.ofChange mvccRisesWrong)

/-- 'stoalaw17.MvccFloors': WHATEVER THE INPUT: true; the input reads as it did. -/
def mvccFloorsSpec : ChangeSpec := { name := "mvccFloors", fn := fun _ => fun
  | [d] => { results := [.lit (.bool true)], args := [d] }
  | _ => none }
def mvccFloorsRow : OpenClaim := { program := "ytiijkehiphkkiaa", sum := "912920f30cf767481d79ae348e75be7e6fc26e5e92967b3ae077501d166f3316", func := "stoa/stoalaw17.MvccFloors", spec := "mvccFloors", unfollowed := true, recurses := true, apart := false }
def MvccFloorsSaid : Prop := mvccFloorsRow.holds Try.pinned (OpenSpec.ofChange mvccFloorsSpec)

/-- ITS FALSE NEIGHBOUR: 'it returns false'. Refute it at one input. -/
def mvccFloorsWrong : ChangeSpec := { name := "mvccFloors", fn := fun _ => fun
  | [d] => { results := [.lit (.bool false)], args := [d] }
  | _ => none }
def MvccFloorsWrongFalsely : Prop := mvccFloorsRow.holds Try.pinned (OpenSpec.ofChange mvccFloorsWrong)

/-- 'stoalaw17.MvccPlays': WHATEVER THE INPUT: true; the input reads as it did. -/
def mvccPlaysSpec : ChangeSpec := { name := "mvccPlays", fn := fun _ => fun
  | [d] => { results := [.lit (.bool true)], args := [d] }
  | _ => none }
def mvccPlaysRow : OpenClaim := { program := "ytiijkehiphkkiaa", sum := "912920f30cf767481d79ae348e75be7e6fc26e5e92967b3ae077501d166f3316", func := "stoa/stoalaw17.MvccPlays", spec := "mvccPlays", unfollowed := true, recurses := true, apart := false }
def MvccPlaysSaid : Prop := mvccPlaysRow.holds Try.pinned (OpenSpec.ofChange mvccPlaysSpec)

/-- ITS FALSE NEIGHBOUR: 'it returns false'. Refute it at one input. -/
def mvccPlaysWrong : ChangeSpec := { name := "mvccPlays", fn := fun _ => fun
  | [d] => { results := [.lit (.bool false)], args := [d] }
  | _ => none }
def MvccPlaysWrongFalsely : Prop := mvccPlaysRow.holds Try.pinned (OpenSpec.ofChange mvccPlaysWrong)

/-- 'stoalaw10.DictIndexes': WHATEVER THE INPUT: true; the input reads as it did. -/
def dictIndexesSpec : ChangeSpec := { name := "dictIndexes", fn := fun _ => fun
  | [d] => { results := [.lit (.bool true)], args := [d] }
  | _ => none }
def dictIndexesRow : OpenClaim := { program := "ytiijkehiphkkiaa", sum := "912920f30cf767481d79ae348e75be7e6fc26e5e92967b3ae077501d166f3316", func := "stoa/stoalaw10.DictIndexes", spec := "dictIndexes", inPlace := ["internal/bytealg.Compare"], unfollowed := true, recurses := true, apart := false }
def DictIndexesSaid : Prop := dictIndexesRow.holds Try.pinned (OpenSpec.ofChange dictIndexesSpec)

/-- ITS FALSE NEIGHBOUR: 'it returns false'. Refute it at one input. -/
def dictIndexesWrong : ChangeSpec := { name := "dictIndexes", fn := fun _ => fun
  | [d] => { results := [.lit (.bool false)], args := [d] }
  | _ => none }
def DictIndexesWrongFalsely : Prop := dictIndexesRow.holds Try.pinned (OpenSpec.ofChange dictIndexesWrong)

/-- 'stoalaw10.DictEncodes': WHATEVER THE INPUT: true; the input reads as it did. -/
def dictEncodesSpec : ChangeSpec := { name := "dictEncodes", fn := fun _ => fun
  | [d] => { results := [.lit (.bool true)], args := [d] }
  | _ => none }
def dictEncodesRow : OpenClaim := { program := "ytiijkehiphkkiaa", sum := "912920f30cf767481d79ae348e75be7e6fc26e5e92967b3ae077501d166f3316", func := "stoa/stoalaw10.DictEncodes", spec := "dictEncodes", inPlace := ["internal/bytealg.Compare"], unfollowed := true, recurses := true, apart := false }
def DictEncodesSaid : Prop := dictEncodesRow.holds Try.pinned (OpenSpec.ofChange dictEncodesSpec)

/-- ITS FALSE NEIGHBOUR: 'it returns false'. Refute it at one input. -/
def dictEncodesWrong : ChangeSpec := { name := "dictEncodes", fn := fun _ => fun
  | [d] => { results := [.lit (.bool false)], args := [d] }
  | _ => none }
def DictEncodesWrongFalsely : Prop := dictEncodesRow.holds Try.pinned (OpenSpec.ofChange dictEncodesWrong)

/-- 'stoalaw10.DictDecodes': WHATEVER THE INPUT: true; the input reads as it did. -/
def dictDecodesSpec : ChangeSpec := { name := "dictDecodes", fn := fun _ => fun
  | [d] => { results := [.lit (.bool true)], args := [d] }
  | _ => none }
def dictDecodesRow : OpenClaim := { program := "ytiijkehiphkkiaa", sum := "912920f30cf767481d79ae348e75be7e6fc26e5e92967b3ae077501d166f3316", func := "stoa/stoalaw10.DictDecodes", spec := "dictDecodes", inPlace := ["internal/bytealg.Compare"], unfollowed := true, recurses := true, apart := false }
def DictDecodesSaid : Prop := dictDecodesRow.holds Try.pinned (OpenSpec.ofChange dictDecodesSpec)

/-- ITS FALSE NEIGHBOUR: 'it returns false'. Refute it at one input. -/
def dictDecodesWrong : ChangeSpec := { name := "dictDecodes", fn := fun _ => fun
  | [d] => { results := [.lit (.bool false)], args := [d] }
  | _ => none }
def DictDecodesWrongFalsely : Prop := dictDecodesRow.holds Try.pinned (OpenSpec.ofChange dictDecodesWrong)

/-- 'stoalaw10.DictBack': WHATEVER THE INPUT: true; the input reads as it did. -/
def dictBackSpec : ChangeSpec := { name := "dictBack", fn := fun _ => fun
  | [d1, d2] => { results := [.lit (.bool true)], args := [d1, d2] }
  | _ => none }
def dictBackRow : OpenClaim := { program := "ytiijkehiphkkiaa", sum := "912920f30cf767481d79ae348e75be7e6fc26e5e92967b3ae077501d166f3316", func := "stoa/stoalaw10.DictBack", spec := "dictBack", inPlace := ["internal/bytealg.Compare"], unfollowed := true, recurses := true, apart := false }
def DictBackSaid : Prop := dictBackRow.holds Try.pinned (OpenSpec.ofChange dictBackSpec)

/-- ITS FALSE NEIGHBOUR: 'it returns false'. Refute it at one input. -/
def dictBackWrong : ChangeSpec := { name := "dictBack", fn := fun _ => fun
  | [d1, d2] => { results := [.lit (.bool false)], args := [d1, d2] }
  | _ => none }
def DictBackWrongFalsely : Prop := dictBackRow.holds Try.pinned (OpenSpec.ofChange dictBackWrong)

/- THE SECOND FORM. 'bulk': how many values and letters a reading holds, each counted each time it is reached (what is shared counts as often as it is met; a slice's spare places count too). A statement '..UptoSaid' is the law's where the arguments, and the package variables that the reading takes, are together of bulk at most 1048576: NARROWER than '..Said'. Prove '..Said' where nothing that the law and all that it calls make is longer than what came in: it says more and counts as full. Else prove '..UptoSaid'. A law counts once. -/
mutual
def uptoBulk {H : Type} : DataW H → Nat
  | .lit (.string bytes) => bytes.length + 1
  | .lit _ => 1
  | .nil => 1
  | .ptr d => uptoBulk d + 1
  | .slice elems spare => uptoBulkAll elems + uptoBulkAll spare + 1
  | .agg parts => uptoBulkAll parts + 1
  | .iface _ d => uptoBulk d + 1
  | .map entries => uptoBulkEntries entries + 1
  | .held _ => 1
def uptoBulkAll {H : Type} : List (DataW H) → Nat
  | [] => 0
  | d :: r => uptoBulk d + uptoBulkAll r
def uptoBulkEntries {H : Type} : List (Lit × DataW H) → Nat
  | [] => 0
  | x :: r => uptoBulkEntry x + uptoBulkEntries r
def uptoBulkEntry {H : Type} : Lit × DataW H → Nat
  | (.string bytes, d) => bytes.length + uptoBulk d + 1
  | (_, d) => uptoBulk d + 1
 end
def uptoSmall : (H : Type) → List (DataW H) → Bool := fun _ ds => decide (uptoBulkAll ds ≤ 1048576)
def OpenSpec.upto (s : _root_.Go.ChangeSpec) : _root_.Go.OpenSpec := { _root_.Go.OpenSpec.ofChange s with cond := some uptoSmall }

/-- 'stoalaw17.MvccEnds', WHERE WHAT IT READS IS OF BULK AT MOST 1048576: true; the input reads as it did. -/
def mvccEndsUptoRow : OpenClaim := { program := "ytiijkehiphkkiaa", sum := "912920f30cf767481d79ae348e75be7e6fc26e5e92967b3ae077501d166f3316", func := "stoa/stoalaw17.MvccEnds", spec := "mvccEnds", unfollowed := true, recurses := true, apart := false, narrowed := true }
def MvccEndsUptoSaid : Prop := mvccEndsUptoRow.holds Try.pinned (OpenSpec.upto mvccEndsSpec)

/-- 'stoalaw17.MvccRises', WHERE WHAT IT READS IS OF BULK AT MOST 1048576: true; the input reads as it did. -/
def mvccRisesUptoRow : OpenClaim := { program := "ytiijkehiphkkiaa", sum := "912920f30cf767481d79ae348e75be7e6fc26e5e92967b3ae077501d166f3316", func := "stoa/stoalaw17.MvccRises", spec := "mvccRises", unfollowed := true, recurses := true, apart := false, narrowed := true }
def MvccRisesUptoSaid : Prop := mvccRisesUptoRow.holds Try.pinned (OpenSpec.upto mvccRisesSpec)

/-- 'stoalaw17.MvccFloors', WHERE WHAT IT READS IS OF BULK AT MOST 1048576: true; the input reads as it did. -/
def mvccFloorsUptoRow : OpenClaim := { program := "ytiijkehiphkkiaa", sum := "912920f30cf767481d79ae348e75be7e6fc26e5e92967b3ae077501d166f3316", func := "stoa/stoalaw17.MvccFloors", spec := "mvccFloors", unfollowed := true, recurses := true, apart := false, narrowed := true }
def MvccFloorsUptoSaid : Prop := mvccFloorsUptoRow.holds Try.pinned (OpenSpec.upto mvccFloorsSpec)

/-- 'stoalaw17.MvccPlays', WHERE WHAT IT READS IS OF BULK AT MOST 1048576: true; the input reads as it did. -/
def mvccPlaysUptoRow : OpenClaim := { program := "ytiijkehiphkkiaa", sum := "912920f30cf767481d79ae348e75be7e6fc26e5e92967b3ae077501d166f3316", func := "stoa/stoalaw17.MvccPlays", spec := "mvccPlays", unfollowed := true, recurses := true, apart := false, narrowed := true }
def MvccPlaysUptoSaid : Prop := mvccPlaysUptoRow.holds Try.pinned (OpenSpec.upto mvccPlaysSpec)

/-- 'stoalaw10.DictIndexes', WHERE WHAT IT READS IS OF BULK AT MOST 1048576: true; the input reads as it did. -/
def dictIndexesUptoRow : OpenClaim := { program := "ytiijkehiphkkiaa", sum := "912920f30cf767481d79ae348e75be7e6fc26e5e92967b3ae077501d166f3316", func := "stoa/stoalaw10.DictIndexes", spec := "dictIndexes", inPlace := ["internal/bytealg.Compare"], unfollowed := true, recurses := true, apart := false, narrowed := true }
def DictIndexesUptoSaid : Prop := dictIndexesUptoRow.holds Try.pinned (OpenSpec.upto dictIndexesSpec)

/-- 'stoalaw10.DictEncodes', WHERE WHAT IT READS IS OF BULK AT MOST 1048576: true; the input reads as it did. -/
def dictEncodesUptoRow : OpenClaim := { program := "ytiijkehiphkkiaa", sum := "912920f30cf767481d79ae348e75be7e6fc26e5e92967b3ae077501d166f3316", func := "stoa/stoalaw10.DictEncodes", spec := "dictEncodes", inPlace := ["internal/bytealg.Compare"], unfollowed := true, recurses := true, apart := false, narrowed := true }
def DictEncodesUptoSaid : Prop := dictEncodesUptoRow.holds Try.pinned (OpenSpec.upto dictEncodesSpec)

/-- 'stoalaw10.DictDecodes', WHERE WHAT IT READS IS OF BULK AT MOST 1048576: true; the input reads as it did. -/
def dictDecodesUptoRow : OpenClaim := { program := "ytiijkehiphkkiaa", sum := "912920f30cf767481d79ae348e75be7e6fc26e5e92967b3ae077501d166f3316", func := "stoa/stoalaw10.DictDecodes", spec := "dictDecodes", inPlace := ["internal/bytealg.Compare"], unfollowed := true, recurses := true, apart := false, narrowed := true }
def DictDecodesUptoSaid : Prop := dictDecodesUptoRow.holds Try.pinned (OpenSpec.upto dictDecodesSpec)

/-- 'stoalaw10.DictBack', WHERE WHAT IT READS IS OF BULK AT MOST 1048576: true; the input reads as it did. -/
def dictBackUptoRow : OpenClaim := { program := "ytiijkehiphkkiaa", sum := "912920f30cf767481d79ae348e75be7e6fc26e5e92967b3ae077501d166f3316", func := "stoa/stoalaw10.DictBack", spec := "dictBack", inPlace := ["internal/bytealg.Compare"], unfollowed := true, recurses := true, apart := false, narrowed := true }
def DictBackUptoSaid : Prop := dictBackUptoRow.holds Try.pinned (OpenSpec.upto dictBackSpec)

end Rows
end Go.Proofs.Ytiijkehiphkkiaa
