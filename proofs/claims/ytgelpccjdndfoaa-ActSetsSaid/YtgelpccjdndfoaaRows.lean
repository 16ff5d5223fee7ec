/-
  No cell of these rows narrows 'for every input' (looked for: loops, veiled, ifaces, maps, wideKeys, modest, calm, conditions, laid).
  DERIVED. THE GIVEN ROWS OF THIS SEAT. 5 by the template 'for every input the law returns true; each argument reads behind the call as it read before'; 0 by the template 'total and deterministic' (their statements: YtgelpccjdndfoaaTotals.lean).
  GIVEN WITH THE SEED: the statements are not yours to turn. If you find one false, say at which input.
  Laid BY PROGRAM, IN A SANDBOX (cutbox-rows.mjs): the forced cells as the released guide's own fill.sh prints them over the translation 481f993bd6ae2dba… (all of the seat's roots in one cut). By AI agents, Wed Nov 11 2026. No macro, syntax, notation, axiom, sorry.
-/
import Derived.Test.YtgelpccjdndfoaaChecked
import GoSem.Claim
import GoSem.ClaimJoined
import GoSem.ClaimMapViews
import Derived.JoinedTies
import Derived.KernelRfl
namespace Go.Proofs.Ytgelpccjdndfoaa
/- THE CELL 'sum', in the pinned program and in every row, IS THE sha256 OF THE DUMP (.gsa) THAT YtgelpccjdndfoaaProg.lean LOADS. Nothing in Lean hashes anything: it is a label: what it is worth is what the hold of that sum in a sandbox is worth. -/
noncomputable def Try.pinned : Pinned := { name := "ytgelpccjdndfoaa", sum := "481f993bd6ae2dbafaf66ced46f55f9bf1cbcfe43f086921b38972afb7c17f89", checked := Try.checked }
namespace Rows
def none {H : Type} : Left H := { results := [], args := [] }

/-- 'dragomanlaw12.ActDoes': WHATEVER THE INPUT: true; the input reads as it did. -/
def actDoesSpec : ChangeSpec := { name := "actDoes", fn := fun _ => fun
  | [d1, d2] => { results := [.lit (.bool true)], args := [d1, d2] }
  | _ => none }
def actDoesRow : OpenClaim := { program := "ytgelpccjdndfoaa", sum := "481f993bd6ae2dbafaf66ced46f55f9bf1cbcfe43f086921b38972afb7c17f89", func := "dragoman/dragomanlaw12.ActDoes", spec := "actDoes", unfollowed := true, recurses := true, apart := false }
def ActDoesSaid : Prop := actDoesRow.holds Try.pinned (OpenSpec.ofChange actDoesSpec)

/-- ITS FALSE NEIGHBOUR: 'it returns false'. Refute it at one input. -/
def actDoesWrong : ChangeSpec := { name := "actDoes", fn := fun _ => fun
  | [d1, d2] => { results := [.lit (.bool false)], args := [d1, d2] }
  | _ => none }
def ActDoesWrongFalsely : Prop := actDoesRow.holds Try.pinned (OpenSpec.ofChange actDoesWrong)

/-- 'dragomanlaw12.ActSets': WHATEVER THE INPUT: true; the input reads as it did. -/
def actSetsSpec : ChangeSpec := { name := "actSets", fn := fun _ => fun
  | [d1, d2, d3] => { results := [.lit (.bool true)], args := [d1, d2, d3] }
  | _ => none }
def actSetsRow : OpenClaim := { program := "ytgelpccjdndfoaa", sum := "481f993bd6ae2dbafaf66ced46f55f9bf1cbcfe43f086921b38972afb7c17f89", func := "dragoman/dragomanlaw12.ActSets", spec := "actSets", unfollowed := true, recurses := true, apart := false }
def ActSetsSaid : Prop := actSetsRow.holds Try.pinned (OpenSpec.ofChange actSetsSpec)

/-- ITS FALSE NEIGHBOUR: 'it returns false'. Refute it at one input. -/
def actSetsWrong : ChangeSpec := { name := "actSets", fn := fun _ => fun
  | [d1, d2, d3] => { results := [.lit (.bool false)], args := [d1, d2, d3] }
  | _ => none }
def ActSetsWrongFalsely : Prop := actSetsRow.holds Try.pinned (OpenSpec.ofChange actSetsWrong)

/-- 'dragomanlaw12.ActElse': WHATEVER THE INPUT: true; the input reads as it did. -/
def actElseSpec : ChangeSpec := { name := "actElse", fn := fun _ => fun
  | [d1, d2] => { results := [.lit (.bool true)], args := [d1, d2] }
  | _ => none }
def actElseRow : OpenClaim := { program := "ytgelpccjdndfoaa", sum := "481f993bd6ae2dbafaf66ced46f55f9bf1cbcfe43f086921b38972afb7c17f89", func := "dragoman/dragomanlaw12.ActElse", spec := "actElse", unfollowed := true, recurses := true, apart := false }
def ActElseSaid : Prop := actElseRow.holds Try.pinned (OpenSpec.ofChange actElseSpec)

/-- ITS FALSE NEIGHBOUR: 'it returns false'. Refute it at one input. -/
def actElseWrong : ChangeSpec := { name := "actElse", fn := fun _ => fun
  | [d1, d2] => { results := [.lit (.bool false)], args := [d1, d2] }
  | _ => none }
def ActElseWrongFalsely : Prop := actElseRow.holds Try.pinned (OpenSpec.ofChange actElseWrong)

/-- 'dragomanlaw12.ActAll': WHATEVER THE INPUT: true; the input reads as it did. -/
def actAllSpec : ChangeSpec := { name := "actAll", fn := fun _ => fun
  | [d1, d2] => { results := [.lit (.bool true)], args := [d1, d2] }
  | _ => none }
def actAllRow : OpenClaim := { program := "ytgelpccjdndfoaa", sum := "481f993bd6ae2dbafaf66ced46f55f9bf1cbcfe43f086921b38972afb7c17f89", func := "dragoman/dragomanlaw12.ActAll", spec := "actAll", unfollowed := true, recurses := true, apart := false }
def ActAllSaid : Prop := actAllRow.holds Try.pinned (OpenSpec.ofChange actAllSpec)

/-- ITS FALSE NEIGHBOUR: 'it returns false'. Refute it at one input. -/
def actAllWrong : ChangeSpec := { name := "actAll", fn := fun _ => fun
  | [d1, d2] => { results := [.lit (.bool false)], args := [d1, d2] }
  | _ => none }
def ActAllWrongFalsely : Prop := actAllRow.holds Try.pinned (OpenSpec.ofChange actAllWrong)

/-- 'dragomanlaw12.ActOrder': WHATEVER THE INPUT: true; the input reads as it did. -/
def actOrderSpec : ChangeSpec := { name := "actOrder", fn := fun _ => fun
  | [d1, d2, d3] => { results := [.lit (.bool true)], args := [d1, d2, d3] }
  | _ => none }
def actOrderRow : OpenClaim := { program := "ytgelpccjdndfoaa", sum := "481f993bd6ae2dbafaf66ced46f55f9bf1cbcfe43f086921b38972afb7c17f89", func := "dragoman/dragomanlaw12.ActOrder", spec := "actOrder", unfollowed := true, recurses := true, apart := false }
def ActOrderSaid : Prop := actOrderRow.holds Try.pinned (OpenSpec.ofChange actOrderSpec)

/-- ITS FALSE NEIGHBOUR: 'it returns false'. Refute it at one input. -/
def actOrderWrong : ChangeSpec := { name := "actOrder", fn := fun _ => fun
  | [d1, d2, d3] => { results := [.lit (.bool false)], args := [d1, d2, d3] }
  | _ => none }
def ActOrderWrongFalsely : Prop := actOrderRow.holds Try.pinned (OpenSpec.ofChange actOrderWrong)

/- THE SECOND FORM. 'bulk': how many values and letters a reading holds, each counted each time it is reached (what is shared counts as often as it is met; a slice's spare places count too). A statement '..UptoSaid' is the law's where the arguments, and the package variables that the reading takes, are together of bulk at most 1048576: NARROWER than '..Said'. Prove '..Said' where nothing that the law and all that it calls make is longer than what came in: it says more and counts as full. Else prove '..UptoSaid'. A law counts once. -/
mutual
def uptoBulk {H : Type} : DataW H → Nat
  | .lit (.string bytes) => bytes.length + 1
  | .lit _ => 1
  | .nil => 1
  | .ptr d => uptoBulk d + 1
  | .slice elems spare => uptoBulkAll elems + uptoBulkAll spare + 1
  | .agg parts => uptoBulkAll parts + 1
  | .iface _ d => uptoBulk d + 1
  | .map entries => uptoBulkEntries entries + 1
  | .held _ => 1
def uptoBulkAll {H : Type} : List (DataW H) → Nat
  | [] => 0
  | d :: r => uptoBulk d + uptoBulkAll r
def uptoBulkEntries {H : Type} : List (Lit × DataW H) → Nat
  | [] => 0
  | x :: r => uptoBulkEntry x + uptoBulkEntries r
def uptoBulkEntry {H : Type} : Lit × DataW H → Nat
  | (.string bytes, d) => bytes.length + uptoBulk d + 1
  | (_, d) => uptoBulk d + 1
 end
def uptoSmall : (H : Type) → List (DataW H) → Bool := fun _ ds => decide (uptoBulkAll ds ≤ 1048576)
def OpenSpec.upto (s : _root_.Go.ChangeSpec) : _root_.Go.OpenSpec := { _root_.Go.OpenSpec.ofChange s with cond := some uptoSmall }

/-- 'dragomanlaw12.ActDoes', WHERE WHAT IT READS IS OF BULK AT MOST 1048576: true; the input reads as it did. -/
def actDoesUptoRow : OpenClaim := { program := "ytgelpccjdndfoaa", sum := "481f993bd6ae2dbafaf66ced46f55f9bf1cbcfe43f086921b38972afb7c17f89", func := "dragoman/dragomanlaw12.ActDoes", spec := "actDoes", unfollowed := true, recurses := true, apart := false, narrowed := true }
def ActDoesUptoSaid : Prop := actDoesUptoRow.holds Try.pinned (OpenSpec.upto actDoesSpec)

/-- 'dragomanlaw12.ActSets', WHERE WHAT IT READS IS OF BULK AT MOST 1048576: true; the input reads as it did. -/
def actSetsUptoRow : OpenClaim := { program := "ytgelpccjdndfoaa", sum := "481f993bd6ae2dbafaf66ced46f55f9bf1cbcfe43f086921b38972afb7c17f89", func := "dragoman/dragomanlaw12.ActSets", spec := "actSets", unfollowed := true, recurses := true, apart := false, narrowed := true }
def ActSetsUptoSaid : Prop := actSetsUptoRow.holds Try.pinned (OpenSpec.upto actSetsSpec)

/-- 'dragomanlaw12.ActElse', WHERE WHAT IT READS IS OF BULK AT MOST 1048576: true; the input reads as it did. -/
def actElseUptoRow : OpenClaim := { program := "ytgelpccjdndfoaa", sum := "481f993bd6ae2dbafaf66ced46f55f9bf1cbcfe43f086921b38972afb7c17f89", func := "dragoman/dragomanlaw12.ActElse", spec := "actElse", unfollowed := true, recurses := true, apart := false, narrowed := true }
def ActElseUptoSaid : Prop := actElseUptoRow.holds Try.pinned (OpenSpec.upto actElseSpec)

/-- 'dragomanlaw12.ActAll', WHERE WHAT IT READS IS OF BULK AT MOST 1048576: true; the input reads as it did. -/
def actAllUptoRow : OpenClaim := { program := "ytgelpccjdndfoaa", sum := "481f993bd6ae2dbafaf66ced46f55f9bf1cbcfe43f086921b38972afb7c17f89", func := "dragoman/dragomanlaw12.ActAll", spec := "actAll", unfollowed := true, recurses := true, apart := false, narrowed := true }
def ActAllUptoSaid : Prop := actAllUptoRow.holds Try.pinned (OpenSpec.upto actAllSpec)

/-- 'dragomanlaw12.ActOrder', WHERE WHAT IT READS IS OF BULK AT MOST 1048576: true; the input reads as it did. -/
def actOrderUptoRow : OpenClaim := { program := "ytgelpccjdndfoaa", sum := "481f993bd6ae2dbafaf66ced46f55f9bf1cbcfe43f086921b38972afb7c17f89", func := "dragoman/dragomanlaw12.ActOrder", spec := "actOrder", unfollowed := true, recurses := true, apart := false, narrowed := true }
def ActOrderUptoSaid : Prop := actOrderUptoRow.holds Try.pinned (OpenSpec.upto actOrderSpec)

end Rows
end Go.Proofs.Ytgelpccjdndfoaa
