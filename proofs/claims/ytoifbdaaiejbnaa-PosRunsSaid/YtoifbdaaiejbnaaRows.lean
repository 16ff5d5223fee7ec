/-
  NARROWER THAN 'FOR EVERY INPUT', by the rows' own cells (each row's printed sentence says how): PosOf: loops · PosStars: loops · PosRuns: loops · PosEnds: loops.
  DERIVED. THE GIVEN ROWS OF THIS SEAT. 4 by the template 'for every input the law returns true; each argument reads behind the call as it read before'; 0 by the template 'total and deterministic' (their statements: YtoifbdaaiejbnaaTotals.lean).
  GIVEN WITH THE SEED: the statements are not yours to turn. If you find one false, say at which input.
  Laid BY PROGRAM, IN A SANDBOX (cutbox-rows.mjs): the forced cells as the released guide's own fill.sh prints them over the translation 4779d691904b0d9c… (all of the seat's roots in one cut). By AI agents, Wed Nov 11 2026. No macro, syntax, notation, axiom, sorry.
-/
import Derived.Test.YtoifbdaaiejbnaaChecked
import GoSem.Claim
import GoSem.ClaimJoined
import GoSem.ClaimMapViews
import Derived.JoinedTies
import Derived.KernelRfl
namespace Go.Proofs.Ytoifbdaaiejbnaa
/- THE CELL 'sum', in the pinned program and in every row, IS THE sha256 OF THE DUMP (.gsa) THAT YtoifbdaaiejbnaaProg.lean LOADS. Nothing in Lean hashes anything: it is a label: what it is worth is what the hold of that sum in a sandbox is worth. -/
noncomputable def Try.pinned : Pinned := { name := "ytoifbdaaiejbnaa", sum := "4779d691904b0d9c674c2f103784f341c574b57a3243de7a8c9e8bd7f41d1475", checked := Try.checked }
namespace Rows
def none {H : Type} : Left H := { results := [], args := [] }

/-- 'dragomanlaw08.PosOf': WHATEVER THE INPUT: true; the input reads as it did. -/
def posOfSpec : ChangeSpec := { name := "posOf", fn := fun _ => fun
  | [d] => { results := [.lit (.bool true)], args := [d] }
  | _ => none }
def posOfRow : OpenClaim := { program := "ytoifbdaaiejbnaa", sum := "4779d691904b0d9c674c2f103784f341c574b57a3243de7a8c9e8bd7f41d1475", func := "dragoman/dragomanlaw08.PosOf", spec := "posOf", inPlace := ["slices.overlaps[int]"], unfollowed := true, recurses := true, loops := true, apart := false }
def PosOfSaid : Prop := posOfRow.holds Try.pinned (OpenSpec.ofChange posOfSpec)

/-- ITS FALSE NEIGHBOUR: 'it returns false'. Refute it at one input. -/
def posOfWrong : ChangeSpec := { name := "posOf", fn := fun _ => fun
  | [d] => { results := [.lit (.bool false)], args := [d] }
  | _ => none }
def PosOfWrongFalsely : Prop := posOfRow.holds Try.pinned (OpenSpec.ofChange posOfWrong)

/-- 'dragomanlaw08.PosStars': WHATEVER THE INPUT: true; the input reads as it did. -/
def posStarsSpec : ChangeSpec := { name := "posStars", fn := fun _ => fun
  | [d] => { results := [.lit (.bool true)], args := [d] }
  | _ => none }
def posStarsRow : OpenClaim := { program := "ytoifbdaaiejbnaa", sum := "4779d691904b0d9c674c2f103784f341c574b57a3243de7a8c9e8bd7f41d1475", func := "dragoman/dragomanlaw08.PosStars", spec := "posStars", inPlace := ["slices.overlaps[int]"], unfollowed := true, recurses := true, loops := true, apart := false }
def PosStarsSaid : Prop := posStarsRow.holds Try.pinned (OpenSpec.ofChange posStarsSpec)

/-- ITS FALSE NEIGHBOUR: 'it returns false'. Refute it at one input. -/
def posStarsWrong : ChangeSpec := { name := "posStars", fn := fun _ => fun
  | [d] => { results := [.lit (.bool false)], args := [d] }
  | _ => none }
def PosStarsWrongFalsely : Prop := posStarsRow.holds Try.pinned (OpenSpec.ofChange posStarsWrong)

/-- 'dragomanlaw08.PosRuns': WHATEVER THE INPUT: true; the input reads as it did. -/
def posRunsSpec : ChangeSpec := { name := "posRuns", fn := fun _ => fun
  | [d1, d2] => { results := [.lit (.bool true)], args := [d1, d2] }
  | _ => none }
def posRunsRow : OpenClaim := { program := "ytoifbdaaiejbnaa", sum := "4779d691904b0d9c674c2f103784f341c574b57a3243de7a8c9e8bd7f41d1475", func := "dragoman/dragomanlaw08.PosRuns", spec := "posRuns", inPlace := ["slices.overlaps[int]"], unfollowed := true, recurses := true, loops := true, apart := false }
def PosRunsSaid : Prop := posRunsRow.holds Try.pinned (OpenSpec.ofChange posRunsSpec)

/-- ITS FALSE NEIGHBOUR: 'it returns false'. Refute it at one input. -/
def posRunsWrong : ChangeSpec := { name := "posRuns", fn := fun _ => fun
  | [d1, d2] => { results := [.lit (.bool false)], args := [d1, d2] }
  | _ => none }
def PosRunsWrongFalsely : Prop := posRunsRow.holds Try.pinned (OpenSpec.ofChange posRunsWrong)

/-- 'dragomanlaw08.PosEnds': WHATEVER THE INPUT: true; the input reads as it did. -/
def posEndsSpec : ChangeSpec := { name := "posEnds", fn := fun _ => fun
  | [d1, d2] => { results := [.lit (.bool true)], args := [d1, d2] }
  | _ => none }
def posEndsRow : OpenClaim := { program := "ytoifbdaaiejbnaa", sum := "4779d691904b0d9c674c2f103784f341c574b57a3243de7a8c9e8bd7f41d1475", func := "dragoman/dragomanlaw08.PosEnds", spec := "posEnds", inPlace := ["slices.overlaps[int]"], unfollowed := true, recurses := true, loops := true, apart := false }
def PosEndsSaid : Prop := posEndsRow.holds Try.pinned (OpenSpec.ofChange posEndsSpec)

/-- ITS FALSE NEIGHBOUR: 'it returns false'. Refute it at one input. -/
def posEndsWrong : ChangeSpec := { name := "posEnds", fn := fun _ => fun
  | [d1, d2] => { results := [.lit (.bool false)], args := [d1, d2] }
  | _ => none }
def PosEndsWrongFalsely : Prop := posEndsRow.holds Try.pinned (OpenSpec.ofChange posEndsWrong)

/- THE SECOND FORM. 'bulk': how many values and letters a reading holds, each counted each time it is reached (what is shared counts as often as it is met; a slice's spare places count too). A statement '..UptoSaid' is the law's where the arguments, and the package variables that the reading takes, are together of bulk at most 1048576: NARROWER than '..Said'. Prove '..Said' where nothing that the law and all that it calls make is longer than what came in: it says more and counts as full. Else prove '..UptoSaid'. A law counts once. -/
mutual
def uptoBulk {H : Type} : DataW H → Nat
  | .lit (.string bytes) => bytes.length + 1
  | .lit _ => 1
  | .nil => 1
  | .ptr d => uptoBulk d + 1
  | .slice elems spare => uptoBulkAll elems + uptoBulkAll spare + 1
  | .agg parts => uptoBulkAll parts + 1
  | .iface _ d => uptoBulk d + 1
  | .map entries => uptoBulkEntries entries + 1
  | .held _ => 1
def uptoBulkAll {H : Type} : List (DataW H) → Nat
  | [] => 0
  | d :: r => uptoBulk d + uptoBulkAll r
def uptoBulkEntries {H : Type} : List (Lit × DataW H) → Nat
  | [] => 0
  | x :: r => uptoBulkEntry x + uptoBulkEntries r
def uptoBulkEntry {H : Type} : Lit × DataW H → Nat
  | (.string bytes, d) => bytes.length + uptoBulk d + 1
  | (_, d) => uptoBulk d + 1
 end
def uptoSmall : (H : Type) → List (DataW H) → Bool := fun _ ds => decide (uptoBulkAll ds ≤ 1048576)
def OpenSpec.upto (s : _root_.Go.ChangeSpec) : _root_.Go.OpenSpec := { _root_.Go.OpenSpec.ofChange s with cond := some uptoSmall }

/-- 'dragomanlaw08.PosOf', WHERE WHAT IT READS IS OF BULK AT MOST 1048576: true; the input reads as it did. -/
def posOfUptoRow : OpenClaim := { program := "ytoifbdaaiejbnaa", sum := "4779d691904b0d9c674c2f103784f341c574b57a3243de7a8c9e8bd7f41d1475", func := "dragoman/dragomanlaw08.PosOf", spec := "posOf", inPlace := ["slices.overlaps[int]"], unfollowed := true, recurses := true, loops := true, apart := false, narrowed := true }
def PosOfUptoSaid : Prop := posOfUptoRow.holds Try.pinned (OpenSpec.upto posOfSpec)

/-- 'dragomanlaw08.PosStars', WHERE WHAT IT READS IS OF BULK AT MOST 1048576: true; the input reads as it did. -/
def posStarsUptoRow : OpenClaim := { program := "ytoifbdaaiejbnaa", sum := "4779d691904b0d9c674c2f103784f341c574b57a3243de7a8c9e8bd7f41d1475", func := "dragoman/dragomanlaw08.PosStars", spec := "posStars", inPlace := ["slices.overlaps[int]"], unfollowed := true, recurses := true, loops := true, apart := false, narrowed := true }
def PosStarsUptoSaid : Prop := posStarsUptoRow.holds Try.pinned (OpenSpec.upto posStarsSpec)

/-- 'dragomanlaw08.PosRuns', WHERE WHAT IT READS IS OF BULK AT MOST 1048576: true; the input reads as it did. -/
def posRunsUptoRow : OpenClaim := { program := "ytoifbdaaiejbnaa", sum := "4779d691904b0d9c674c2f103784f341c574b57a3243de7a8c9e8bd7f41d1475", func := "dragoman/dragomanlaw08.PosRuns", spec := "posRuns", inPlace := ["slices.overlaps[int]"], unfollowed := true, recurses := true, loops := true, apart := false, narrowed := true }
def PosRunsUptoSaid : Prop := posRunsUptoRow.holds Try.pinned (OpenSpec.upto posRunsSpec)

/-- 'dragomanlaw08.PosEnds', WHERE WHAT IT READS IS OF BULK AT MOST 1048576: true; the input reads as it did. -/
def posEndsUptoRow : OpenClaim := { program := "ytoifbdaaiejbnaa", sum := "4779d691904b0d9c674c2f103784f341c574b57a3243de7a8c9e8bd7f41d1475", func := "dragoman/dragomanlaw08.PosEnds", spec := "posEnds", inPlace := ["slices.overlaps[int]"], unfollowed := true, recurses := true, loops := true, apart := false, narrowed := true }
def PosEndsUptoSaid : Prop := posEndsUptoRow.holds Try.pinned (OpenSpec.upto posEndsSpec)

end Rows
end Go.Proofs.Ytoifbdaaiejbnaa
