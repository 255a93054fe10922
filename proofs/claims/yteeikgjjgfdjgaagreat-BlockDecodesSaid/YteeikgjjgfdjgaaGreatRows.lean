/-
  No cell of these rows narrows 'for every input' (looked for: loops, veiled, ifaces, maps, wideKeys, modest, calm, conditions, laid).
  DERIVED. THE GIVEN ROWS OF THIS SEAT. 6 by the template 'for every input the law returns true; each argument reads behind the call as it read before'; 0 by the template 'total and deterministic' (their statements: YteeikgjjgfdjgaaGreatTotals.lean).
  GIVEN WITH THE SEED: the statements are not yours to turn. If you find one false, say at which input.
  Laid BY PROGRAM, IN A SANDBOX (cutbox-rows.mjs): the forced cells as the released guide's own fill.sh prints them over the translation 492dd45fa1cd6eea… (all of the seat's roots in one cut). By AI agents, Wed Nov 11 2026. No macro, syntax, notation, axiom, sorry.
-/
import Derived.Test.YteeikgjjgfdjgaaGreatChecked
import GoSem.Claim
import GoSem.ClaimJoined
import GoSem.ClaimMapViews
import Derived.JoinedTies
import Derived.KernelRfl
namespace Go.Proofs.YteeikgjjgfdjgaaGreat
/- THE CELL 'sum', in the pinned program and in every row, IS THE sha256 OF THE DUMP (.gsa) THAT YteeikgjjgfdjgaaGreatProg.lean LOADS. Nothing in Lean hashes anything: it is a label: what it is worth is what the hold of that sum in a sandbox is worth. -/
noncomputable def Tryz.pinned : Pinned := { name := "yteeikgjjgfdjgaagreat", sum := "492dd45fa1cd6eeaf8e586695f3ea8d0b474e3f10da1729cf11cce26de6b95fb", checked := Tryz.checked }
namespace Rows
def none {H : Type} : Left H := { results := [], args := [] }

/-- 'stoalaw12.BlockEncodes': WHATEVER THE INPUT: true; the input reads as it did. -/
def blockEncodesSpec : ChangeSpec := { name := "blockEncodes", fn := fun _ => fun
  | [d1, d2, d3] => { results := [.lit (.bool true)], args := [d1, d2, d3] }
  | _ => none }
def blockEncodesRow : OpenClaim := { program := "yteeikgjjgfdjgaagreat", sum := "492dd45fa1cd6eeaf8e586695f3ea8d0b474e3f10da1729cf11cce26de6b95fb", func := "stoa/stoalaw12.BlockEncodes", spec := "blockEncodes", inPlace := ["internal/bytealg.IndexByte", "internal/bytealg.Compare"], unfollowed := true, recurses := true, apart := false }
def BlockEncodesSaid : Prop := blockEncodesRow.holds Tryz.pinned (OpenSpec.ofChange blockEncodesSpec)

/-- ITS FALSE NEIGHBOUR: 'it returns false'. Refute it at one input. -/
def blockEncodesWrong : ChangeSpec := { name := "blockEncodes", fn := fun _ => fun
  | [d1, d2, d3] => { results := [.lit (.bool false)], args := [d1, d2, d3] }
  | _ => none }
def BlockEncodesWrongFalsely : Prop := blockEncodesRow.holds Tryz.pinned (OpenSpec.ofChange blockEncodesWrong)

/-- 'stoalaw12.BlockBest': WHATEVER THE INPUT: true; the input reads as it did. -/
def blockBestSpec : ChangeSpec := { name := "blockBest", fn := fun _ => fun
  | [d1, d2] => { results := [.lit (.bool true)], args := [d1, d2] }
  | _ => none }
def blockBestRow : OpenClaim := { program := "yteeikgjjgfdjgaagreat", sum := "492dd45fa1cd6eeaf8e586695f3ea8d0b474e3f10da1729cf11cce26de6b95fb", func := "stoa/stoalaw12.BlockBest", spec := "blockBest", inPlace := ["internal/bytealg.IndexByte", "internal/bytealg.Compare"], unfollowed := true, recurses := true, apart := false }
def BlockBestSaid : Prop := blockBestRow.holds Tryz.pinned (OpenSpec.ofChange blockBestSpec)

/-- ITS FALSE NEIGHBOUR: 'it returns false'. Refute it at one input. -/
def blockBestWrong : ChangeSpec := { name := "blockBest", fn := fun _ => fun
  | [d1, d2] => { results := [.lit (.bool false)], args := [d1, d2] }
  | _ => none }
def BlockBestWrongFalsely : Prop := blockBestRow.holds Tryz.pinned (OpenSpec.ofChange blockBestWrong)

/-- 'stoalaw12.BlockDecodes': WHATEVER THE INPUT: true; the input reads as it did. -/
def blockDecodesSpec : ChangeSpec := { name := "blockDecodes", fn := fun _ => fun
  | [d1, d2] => { results := [.lit (.bool true)], args := [d1, d2] }
  | _ => none }
def blockDecodesRow : OpenClaim := { program := "yteeikgjjgfdjgaagreat", sum := "492dd45fa1cd6eeaf8e586695f3ea8d0b474e3f10da1729cf11cce26de6b95fb", func := "stoa/stoalaw12.BlockDecodes", spec := "blockDecodes", inPlace := ["internal/bytealg.IndexByte", "internal/bytealg.Compare"], unfollowed := true, recurses := true, apart := false }
def BlockDecodesSaid : Prop := blockDecodesRow.holds Tryz.pinned (OpenSpec.ofChange blockDecodesSpec)

/-- ITS FALSE NEIGHBOUR: 'it returns false'. Refute it at one input. -/
def blockDecodesWrong : ChangeSpec := { name := "blockDecodes", fn := fun _ => fun
  | [d1, d2] => { results := [.lit (.bool false)], args := [d1, d2] }
  | _ => none }
def BlockDecodesWrongFalsely : Prop := blockDecodesRow.holds Tryz.pinned (OpenSpec.ofChange blockDecodesWrong)

/-- 'stoalaw12.BlockBack': WHATEVER THE INPUT: true; the input reads as it did. -/
def blockBackSpec : ChangeSpec := { name := "blockBack", fn := fun _ => fun
  | [d1, d2, d3] => { results := [.lit (.bool true)], args := [d1, d2, d3] }
  | _ => none }
def blockBackRow : OpenClaim := { program := "yteeikgjjgfdjgaagreat", sum := "492dd45fa1cd6eeaf8e586695f3ea8d0b474e3f10da1729cf11cce26de6b95fb", func := "stoa/stoalaw12.BlockBack", spec := "blockBack", inPlace := ["internal/bytealg.IndexByte", "internal/bytealg.Compare"], unfollowed := true, recurses := true, apart := false }
def BlockBackSaid : Prop := blockBackRow.holds Tryz.pinned (OpenSpec.ofChange blockBackSpec)

/-- ITS FALSE NEIGHBOUR: 'it returns false'. Refute it at one input. -/
def blockBackWrong : ChangeSpec := { name := "blockBack", fn := fun _ => fun
  | [d1, d2, d3] => { results := [.lit (.bool false)], args := [d1, d2, d3] }
  | _ => none }
def BlockBackWrongFalsely : Prop := blockBackRow.holds Tryz.pinned (OpenSpec.ofChange blockBackWrong)

/-- 'stoalaw12.BlockOnly': WHATEVER THE INPUT: true; the input reads as it did. -/
def blockOnlySpec : ChangeSpec := { name := "blockOnly", fn := fun _ => fun
  | [d1, d2] => { results := [.lit (.bool true)], args := [d1, d2] }
  | _ => none }
def blockOnlyRow : OpenClaim := { program := "yteeikgjjgfdjgaagreat", sum := "492dd45fa1cd6eeaf8e586695f3ea8d0b474e3f10da1729cf11cce26de6b95fb", func := "stoa/stoalaw12.BlockOnly", spec := "blockOnly", inPlace := ["internal/bytealg.IndexByte", "internal/bytealg.Compare"], unfollowed := true, recurses := true, apart := false }
def BlockOnlySaid : Prop := blockOnlyRow.holds Tryz.pinned (OpenSpec.ofChange blockOnlySpec)

/-- ITS FALSE NEIGHBOUR: 'it returns false'. Refute it at one input. -/
def blockOnlyWrong : ChangeSpec := { name := "blockOnly", fn := fun _ => fun
  | [d1, d2] => { results := [.lit (.bool false)], args := [d1, d2] }
  | _ => none }
def BlockOnlyWrongFalsely : Prop := blockOnlyRow.holds Tryz.pinned (OpenSpec.ofChange blockOnlyWrong)

/-- 'stoalaw12.BlockTells': WHATEVER THE INPUT: true; the input reads as it did. -/
def blockTellsSpec : ChangeSpec := { name := "blockTells", fn := fun _ => fun
  | [d1, d2, d3, d4, d5] => { results := [.lit (.bool true)], args := [d1, d2, d3, d4, d5] }
  | _ => none }
def blockTellsRow : OpenClaim := { program := "yteeikgjjgfdjgaagreat", sum := "492dd45fa1cd6eeaf8e586695f3ea8d0b474e3f10da1729cf11cce26de6b95fb", func := "stoa/stoalaw12.BlockTells", spec := "blockTells", inPlace := ["internal/bytealg.IndexByte", "internal/bytealg.Compare"], unfollowed := true, recurses := true, apart := false }
def BlockTellsSaid : Prop := blockTellsRow.holds Tryz.pinned (OpenSpec.ofChange blockTellsSpec)

/-- ITS FALSE NEIGHBOUR: 'it returns false'. Refute it at one input. -/
def blockTellsWrong : ChangeSpec := { name := "blockTells", fn := fun _ => fun
  | [d1, d2, d3, d4, d5] => { results := [.lit (.bool false)], args := [d1, d2, d3, d4, d5] }
  | _ => none }
def BlockTellsWrongFalsely : Prop := blockTellsRow.holds Tryz.pinned (OpenSpec.ofChange blockTellsWrong)

/- THE SECOND FORM. 'bulk': how many values and letters a reading holds, each counted each time it is reached (what is shared counts as often as it is met; a slice's spare places count too). A statement '..UptoSaid' is the law's where the arguments, and the package variables that the reading takes, are together of bulk at most 1048576: NARROWER than '..Said'. Prove '..Said' where nothing that the law and all that it calls make is longer than what came in: it says more and counts as full. Else prove '..UptoSaid'. A law counts once. -/
mutual
def uptoBulk {H : Type} : DataW H → Nat
  | .lit (.string bytes) => bytes.length + 1
  | .lit _ => 1
  | .nil => 1
  | .ptr d => uptoBulk d + 1
  | .slice elems spare => uptoBulkAll elems + uptoBulkAll spare + 1
  | .agg parts => uptoBulkAll parts + 1
  | .iface _ d => uptoBulk d + 1
  | .map entries => uptoBulkEntries entries + 1
  | .held _ => 1
def uptoBulkAll {H : Type} : List (DataW H) → Nat
  | [] => 0
  | d :: r => uptoBulk d + uptoBulkAll r
def uptoBulkEntries {H : Type} : List (Lit × DataW H) → Nat
  | [] => 0
  | x :: r => uptoBulkEntry x + uptoBulkEntries r
def uptoBulkEntry {H : Type} : Lit × DataW H → Nat
  | (.string bytes, d) => bytes.length + uptoBulk d + 1
  | (_, d) => uptoBulk d + 1
 end
def uptoSmall : (H : Type) → List (DataW H) → Bool := fun _ ds => decide (uptoBulkAll ds ≤ 1048576)
def OpenSpec.upto (s : _root_.Go.ChangeSpec) : _root_.Go.OpenSpec := { _root_.Go.OpenSpec.ofChange s with cond := some uptoSmall }

/-- 'stoalaw12.BlockEncodes', WHERE WHAT IT READS IS OF BULK AT MOST 1048576: true; the input reads as it did. -/
def blockEncodesUptoRow : OpenClaim := { program := "yteeikgjjgfdjgaagreat", sum := "492dd45fa1cd6eeaf8e586695f3ea8d0b474e3f10da1729cf11cce26de6b95fb", func := "stoa/stoalaw12.BlockEncodes", spec := "blockEncodes", inPlace := ["internal/bytealg.IndexByte", "internal/bytealg.Compare"], unfollowed := true, recurses := true, apart := false, narrowed := true }
def BlockEncodesUptoSaid : Prop := blockEncodesUptoRow.holds Tryz.pinned (OpenSpec.upto blockEncodesSpec)

/-- 'stoalaw12.BlockBest', WHERE WHAT IT READS IS OF BULK AT MOST 1048576: true; the input reads as it did. -/
def blockBestUptoRow : OpenClaim := { program := "yteeikgjjgfdjgaagreat", sum := "492dd45fa1cd6eeaf8e586695f3ea8d0b474e3f10da1729cf11cce26de6b95fb", func := "stoa/stoalaw12.BlockBest", spec := "blockBest", inPlace := ["internal/bytealg.IndexByte", "internal/bytealg.Compare"], unfollowed := true, recurses := true, apart := false, narrowed := true }
def BlockBestUptoSaid : Prop := blockBestUptoRow.holds Tryz.pinned (OpenSpec.upto blockBestSpec)

/-- 'stoalaw12.BlockDecodes', WHERE WHAT IT READS IS OF BULK AT MOST 1048576: true; the input reads as it did. -/
def blockDecodesUptoRow : OpenClaim := { program := "yteeikgjjgfdjgaagreat", sum := "492dd45fa1cd6eeaf8e586695f3ea8d0b474e3f10da1729cf11cce26de6b95fb", func := "stoa/stoalaw12.BlockDecodes", spec := "blockDecodes", inPlace := ["internal/bytealg.IndexByte", "internal/bytealg.Compare"], unfollowed := true, recurses := true, apart := false, narrowed := true }
def BlockDecodesUptoSaid : Prop := blockDecodesUptoRow.holds Tryz.pinned (OpenSpec.upto blockDecodesSpec)

/-- 'stoalaw12.BlockBack', WHERE WHAT IT READS IS OF BULK AT MOST 1048576: true; the input reads as it did. -/
def blockBackUptoRow : OpenClaim := { program := "yteeikgjjgfdjgaagreat", sum := "492dd45fa1cd6eeaf8e586695f3ea8d0b474e3f10da1729cf11cce26de6b95fb", func := "stoa/stoalaw12.BlockBack", spec := "blockBack", inPlace := ["internal/bytealg.IndexByte", "internal/bytealg.Compare"], unfollowed := true, recurses := true, apart := false, narrowed := true }
def BlockBackUptoSaid : Prop := blockBackUptoRow.holds Tryz.pinned (OpenSpec.upto blockBackSpec)

/-- 'stoalaw12.BlockOnly', WHERE WHAT IT READS IS OF BULK AT MOST 1048576: true; the input reads as it did. -/
def blockOnlyUptoRow : OpenClaim := { program := "yteeikgjjgfdjgaagreat", sum := "492dd45fa1cd6eeaf8e586695f3ea8d0b474e3f10da1729cf11cce26de6b95fb", func := "stoa/stoalaw12.BlockOnly", spec := "blockOnly", inPlace := ["internal/bytealg.IndexByte", "internal/bytealg.Compare"], unfollowed := true, recurses := true, apart := false, narrowed := true }
def BlockOnlyUptoSaid : Prop := blockOnlyUptoRow.holds Tryz.pinned (OpenSpec.upto blockOnlySpec)

/-- 'stoalaw12.BlockTells', WHERE WHAT IT READS IS OF BULK AT MOST 1048576: true; the input reads as it did. -/
def blockTellsUptoRow : OpenClaim := { program := "yteeikgjjgfdjgaagreat", sum := "492dd45fa1cd6eeaf8e586695f3ea8d0b474e3f10da1729cf11cce26de6b95fb", func := "stoa/stoalaw12.BlockTells", spec := "blockTells", inPlace := ["internal/bytealg.IndexByte", "internal/bytealg.Compare"], unfollowed := true, recurses := true, apart := false, narrowed := true }
def BlockTellsUptoSaid : Prop := blockTellsUptoRow.holds Tryz.pinned (OpenSpec.upto blockTellsSpec)

end Rows
end Go.Proofs.YteeikgjjgfdjgaaGreat
