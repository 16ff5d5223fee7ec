/-
  No cell of these rows narrows 'for every input' (looked for: loops, veiled, ifaces, maps, wideKeys, modest, calm, conditions, laid).
  DERIVED. THE GIVEN ROWS OF THIS SEAT. 5 by the template 'for every input the law returns true; each argument reads behind the call as it read before'; 0 by the template 'total and deterministic' (their statements: YtdkbfcogmlghfaaTotals.lean).
  GIVEN WITH THE SEED: the statements are not yours to turn. If you find one false, say at which input.
  Laid BY PROGRAM, IN A SANDBOX (cutbox-rows.mjs): the forced cells as the released guide's own fill.sh prints them over the translation 8e69e1038233f5a0… (all of the seat's roots in one cut). By AI agents, Wed Nov 11 2026. No macro, syntax, notation, axiom, sorry.
-/
import Derived.Test.YtdkbfcogmlghfaaChecked
import GoSem.Claim
import GoSem.ClaimJoined
import GoSem.ClaimMapViews
import Derived.JoinedTies
import Derived.KernelRfl
namespace Go.Proofs.Ytdkbfcogmlghfaa
/- THE CELL 'sum', in the pinned program and in every row, IS THE sha256 OF THE DUMP (.gsa) THAT YtdkbfcogmlghfaaProg.lean LOADS. Nothing in Lean hashes anything: it is a label: what it is worth is what the hold of that sum in a sandbox is worth. -/
noncomputable def Try.pinned : Pinned := { name := "ytdkbfcogmlghfaa", sum := "8e69e1038233f5a081ad1c90de87ca825bb7ae132cf9cb4f3f4e9a18de8fd054", checked := Try.checked }
namespace Rows
def none {H : Type} : Left H := { results := [], args := [] }

/-- 'dragomanlaw02.PlaneMeets': WHATEVER THE INPUT: true; the input reads as it did. -/
def planeMeetsSpec : ChangeSpec := { name := "planeMeets", fn := fun _ => fun
  | [d1, d2, d3] => { results := [.lit (.bool true)], args := [d1, d2, d3] }
  | _ => none }
def planeMeetsRow : OpenClaim := { program := "ytdkbfcogmlghfaa", sum := "8e69e1038233f5a081ad1c90de87ca825bb7ae132cf9cb4f3f4e9a18de8fd054", func := "dragoman/dragomanlaw02.PlaneMeets", spec := "planeMeets", recurses := true, apart := false }
def PlaneMeetsSaid : Prop := planeMeetsRow.holds Try.pinned (OpenSpec.ofChange planeMeetsSpec)

/-- ITS FALSE NEIGHBOUR: 'it returns false'. Refute it at one input. -/
def planeMeetsWrong : ChangeSpec := { name := "planeMeets", fn := fun _ => fun
  | [d1, d2, d3] => { results := [.lit (.bool false)], args := [d1, d2, d3] }
  | _ => none }
def PlaneMeetsWrongFalsely : Prop := planeMeetsRow.holds Try.pinned (OpenSpec.ofChange planeMeetsWrong)

/-- 'dragomanlaw02.PlaneCells': WHATEVER THE INPUT: true; the input reads as it did. -/
def planeCellsSpec : ChangeSpec := { name := "planeCells", fn := fun _ => fun
  | [d] => { results := [.lit (.bool true)], args := [d] }
  | _ => none }
def planeCellsRow : OpenClaim := { program := "ytdkbfcogmlghfaa", sum := "8e69e1038233f5a081ad1c90de87ca825bb7ae132cf9cb4f3f4e9a18de8fd054", func := "dragoman/dragomanlaw02.PlaneCells", spec := "planeCells", recurses := true, apart := false }
def PlaneCellsSaid : Prop := planeCellsRow.holds Try.pinned (OpenSpec.ofChange planeCellsSpec)

/-- ITS FALSE NEIGHBOUR: 'it returns false'. Refute it at one input. -/
def planeCellsWrong : ChangeSpec := { name := "planeCells", fn := fun _ => fun
  | [d] => { results := [.lit (.bool false)], args := [d] }
  | _ => none }
def PlaneCellsWrongFalsely : Prop := planeCellsRow.holds Try.pinned (OpenSpec.ofChange planeCellsWrong)

/-- 'dragomanlaw02.PlaneKinds': WHATEVER THE INPUT: true; the input reads as it did. -/
def planeKindsSpec : ChangeSpec := { name := "planeKinds", fn := fun _ => fun
  | [d1, d2] => { results := [.lit (.bool true)], args := [d1, d2] }
  | _ => none }
def planeKindsRow : OpenClaim := { program := "ytdkbfcogmlghfaa", sum := "8e69e1038233f5a081ad1c90de87ca825bb7ae132cf9cb4f3f4e9a18de8fd054", func := "dragoman/dragomanlaw02.PlaneKinds", spec := "planeKinds", recurses := true, apart := false }
def PlaneKindsSaid : Prop := planeKindsRow.holds Try.pinned (OpenSpec.ofChange planeKindsSpec)

/-- ITS FALSE NEIGHBOUR: 'it returns false'. Refute it at one input. -/
def planeKindsWrong : ChangeSpec := { name := "planeKinds", fn := fun _ => fun
  | [d1, d2] => { results := [.lit (.bool false)], args := [d1, d2] }
  | _ => none }
def PlaneKindsWrongFalsely : Prop := planeKindsRow.holds Try.pinned (OpenSpec.ofChange planeKindsWrong)

/-- 'dragomanlaw02.PlaneLaws': WHATEVER THE INPUT: true; the input reads as it did. -/
def planeLawsSpec : ChangeSpec := { name := "planeLaws", fn := fun _ => fun
  | [d1, d2, d3] => { results := [.lit (.bool true)], args := [d1, d2, d3] }
  | _ => none }
def planeLawsRow : OpenClaim := { program := "ytdkbfcogmlghfaa", sum := "8e69e1038233f5a081ad1c90de87ca825bb7ae132cf9cb4f3f4e9a18de8fd054", func := "dragoman/dragomanlaw02.PlaneLaws", spec := "planeLaws", recurses := true, apart := false }
def PlaneLawsSaid : Prop := planeLawsRow.holds Try.pinned (OpenSpec.ofChange planeLawsSpec)

/-- ITS FALSE NEIGHBOUR: 'it returns false'. Refute it at one input. -/
def planeLawsWrong : ChangeSpec := { name := "planeLaws", fn := fun _ => fun
  | [d1, d2, d3] => { results := [.lit (.bool false)], args := [d1, d2, d3] }
  | _ => none }
def PlaneLawsWrongFalsely : Prop := planeLawsRow.holds Try.pinned (OpenSpec.ofChange planeLawsWrong)

/-- 'dragomanlaw02.PlaneIn': WHATEVER THE INPUT: true; the input reads as it did. -/
def planeInSpec : ChangeSpec := { name := "planeIn", fn := fun _ => fun
  | [d1, d2] => { results := [.lit (.bool true)], args := [d1, d2] }
  | _ => none }
def planeInRow : OpenClaim := { program := "ytdkbfcogmlghfaa", sum := "8e69e1038233f5a081ad1c90de87ca825bb7ae132cf9cb4f3f4e9a18de8fd054", func := "dragoman/dragomanlaw02.PlaneIn", spec := "planeIn", unfollowed := true, recurses := true, apart := false }
def PlaneInSaid : Prop := planeInRow.holds Try.pinned (OpenSpec.ofChange planeInSpec)

/-- ITS FALSE NEIGHBOUR: 'it returns false'. Refute it at one input. -/
def planeInWrong : ChangeSpec := { name := "planeIn", fn := fun _ => fun
  | [d1, d2] => { results := [.lit (.bool false)], args := [d1, d2] }
  | _ => none }
def PlaneInWrongFalsely : Prop := planeInRow.holds Try.pinned (OpenSpec.ofChange planeInWrong)

/- THE SECOND FORM. 'bulk': how many values and letters a reading holds, each counted each time it is reached (what is shared counts as often as it is met; a slice's spare places count too). A statement '..UptoSaid' is the law's where the arguments, and the package variables that the reading takes, are together of bulk at most 1048576: NARROWER than '..Said'. Prove '..Said' where nothing that the law and all that it calls make is longer than what came in: it says more and counts as full. Else prove '..UptoSaid'. A law counts once. -/
mutual
def uptoBulk {H : Type} : DataW H → Nat
  | .lit (.string bytes) => bytes.length + 1
  | .lit _ => 1
  | .nil => 1
  | .ptr d => uptoBulk d + 1
  | .slice elems spare => uptoBulkAll elems + uptoBulkAll spare + 1
  | .agg parts => uptoBulkAll parts + 1
  | .iface _ d => uptoBulk d + 1
  | .map entries => uptoBulkEntries entries + 1
  | .held _ => 1
def uptoBulkAll {H : Type} : List (DataW H) → Nat
  | [] => 0
  | d :: r => uptoBulk d + uptoBulkAll r
def uptoBulkEntries {H : Type} : List (Lit × DataW H) → Nat
  | [] => 0
  | x :: r => uptoBulkEntry x + uptoBulkEntries r
def uptoBulkEntry {H : Type} : Lit × DataW H → Nat
  | (.string bytes, d) => bytes.length + uptoBulk d + 1
  | (_, d) => uptoBulk d + 1
 end
def uptoSmall : (H : Type) → List (DataW H) → Bool := fun _ ds => decide (uptoBulkAll ds ≤ 1048576)
def OpenSpec.upto (s : _root_.Go.ChangeSpec) : _root_.Go.OpenSpec := { _root_.Go.OpenSpec.ofChange s with cond := some uptoSmall }

/-- 'dragomanlaw02.PlaneMeets', WHERE WHAT IT READS IS OF BULK AT MOST 1048576: true; the input reads as it did. -/
def planeMeetsUptoRow : OpenClaim := { program := "ytdkbfcogmlghfaa", sum := "8e69e1038233f5a081ad1c90de87ca825bb7ae132cf9cb4f3f4e9a18de8fd054", func := "dragoman/dragomanlaw02.PlaneMeets", spec := "planeMeets", recurses := true, apart := false, narrowed := true }
def PlaneMeetsUptoSaid : Prop := planeMeetsUptoRow.holds Try.pinned (OpenSpec.upto planeMeetsSpec)

/-- 'dragomanlaw02.PlaneCells', WHERE WHAT IT READS IS OF BULK AT MOST 1048576: true; the input reads as it did. -/
def planeCellsUptoRow : OpenClaim := { program := "ytdkbfcogmlghfaa", sum := "8e69e1038233f5a081ad1c90de87ca825bb7ae132cf9cb4f3f4e9a18de8fd054", func := "dragoman/dragomanlaw02.PlaneCells", spec := "planeCells", recurses := true, apart := false, narrowed := true }
def PlaneCellsUptoSaid : Prop := planeCellsUptoRow.holds Try.pinned (OpenSpec.upto planeCellsSpec)

/-- 'dragomanlaw02.PlaneKinds', WHERE WHAT IT READS IS OF BULK AT MOST 1048576: true; the input reads as it did. -/
def planeKindsUptoRow : OpenClaim := { program := "ytdkbfcogmlghfaa", sum := "8e69e1038233f5a081ad1c90de87ca825bb7ae132cf9cb4f3f4e9a18de8fd054", func := "dragoman/dragomanlaw02.PlaneKinds", spec := "planeKinds", recurses := true, apart := false, narrowed := true }
def PlaneKindsUptoSaid : Prop := planeKindsUptoRow.holds Try.pinned (OpenSpec.upto planeKindsSpec)

/-- 'dragomanlaw02.PlaneLaws', WHERE WHAT IT READS IS OF BULK AT MOST 1048576: true; the input reads as it did. -/
def planeLawsUptoRow : OpenClaim := { program := "ytdkbfcogmlghfaa", sum := "8e69e1038233f5a081ad1c90de87ca825bb7ae132cf9cb4f3f4e9a18de8fd054", func := "dragoman/dragomanlaw02.PlaneLaws", spec := "planeLaws", recurses := true, apart := false, narrowed := true }
def PlaneLawsUptoSaid : Prop := planeLawsUptoRow.holds Try.pinned (OpenSpec.upto planeLawsSpec)

/-- 'dragomanlaw02.PlaneIn', WHERE WHAT IT READS IS OF BULK AT MOST 1048576: true; the input reads as it did. -/
def planeInUptoRow : OpenClaim := { program := "ytdkbfcogmlghfaa", sum := "8e69e1038233f5a081ad1c90de87ca825bb7ae132cf9cb4f3f4e9a18de8fd054", func := "dragoman/dragomanlaw02.PlaneIn", spec := "planeIn", unfollowed := true, recurses := true, apart := false, narrowed := true }
def PlaneInUptoSaid : Prop := planeInUptoRow.holds Try.pinned (OpenSpec.upto planeInSpec)

end Rows
end Go.Proofs.Ytdkbfcogmlghfaa
