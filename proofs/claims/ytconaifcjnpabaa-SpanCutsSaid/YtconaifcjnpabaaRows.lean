/-
  No cell of these rows narrows 'for every input' (looked for: loops, veiled, ifaces, maps, wideKeys, modest, calm, conditions, laid).
  DERIVED. THE GIVEN ROWS OF THIS SEAT. 5 by the template 'for every input the law returns true; each argument reads behind the call as it read before'; 0 by the template 'total and deterministic' (their statements: YtconaifcjnpabaaTotals.lean).
  GIVEN WITH THE SEED: the statements are not yours to turn. If you find one false, say at which input.
  Laid BY PROGRAM, IN A SANDBOX (cutbox-rows.mjs): the forced cells as the released guide's own fill.sh prints them over the translation 1cdfc4974524da88… (all of the seat's roots in one cut). By AI agents, Wed Nov 11 2026. No macro, syntax, notation, axiom, sorry.
-/
import Derived.Test.YtconaifcjnpabaaChecked
import GoSem.Claim
import GoSem.ClaimJoined
import GoSem.ClaimMapViews
import Derived.JoinedTies
import Derived.KernelRfl
namespace Go.Proofs.Ytconaifcjnpabaa
/- THE CELL 'sum', in the pinned program and in every row, IS THE sha256 OF THE DUMP (.gsa) THAT YtconaifcjnpabaaProg.lean LOADS. Nothing in Lean hashes anything: it is a label: what it is worth is what the hold of that sum in a sandbox is worth. -/
noncomputable def Try.pinned : Pinned := { name := "ytconaifcjnpabaa", sum := "1cdfc4974524da885a7b7332c8b7530c856cc1bf1821052ce8dd6c9609b00585", checked := Try.checked }
namespace Rows
def none {H : Type} : Left H := { results := [], args := [] }

/-- 'dragomanlaw01.SpanAtoms': WHATEVER THE INPUT: true; the input reads as it did. -/
def spanAtomsSpec : ChangeSpec := { name := "spanAtoms", fn := fun _ => fun
  | [d] => { results := [.lit (.bool true)], args := [d] }
  | _ => none }
def spanAtomsRow : OpenClaim := { program := "ytconaifcjnpabaa", sum := "1cdfc4974524da885a7b7332c8b7530c856cc1bf1821052ce8dd6c9609b00585", func := "dragoman/dragomanlaw01.SpanAtoms", spec := "spanAtoms", unfollowed := true, recurses := true, apart := false }
def SpanAtomsSaid : Prop := spanAtomsRow.holds Try.pinned (OpenSpec.ofChange spanAtomsSpec)

/-- ITS FALSE NEIGHBOUR: 'it returns false'. Refute it at one input. -/
def spanAtomsWrong : ChangeSpec := { name := "spanAtoms", fn := fun _ => fun
  | [d] => { results := [.lit (.bool false)], args := [d] }
  | _ => none }
def SpanAtomsWrongFalsely : Prop := spanAtomsRow.holds Try.pinned (OpenSpec.ofChange spanAtomsWrong)

/-- 'dragomanlaw01.SpanNorms': WHATEVER THE INPUT: true; the input reads as it did. -/
def spanNormsSpec : ChangeSpec := { name := "spanNorms", fn := fun _ => fun
  | [d1, d2] => { results := [.lit (.bool true)], args := [d1, d2] }
  | _ => none }
def spanNormsRow : OpenClaim := { program := "ytconaifcjnpabaa", sum := "1cdfc4974524da885a7b7332c8b7530c856cc1bf1821052ce8dd6c9609b00585", func := "dragoman/dragomanlaw01.SpanNorms", spec := "spanNorms", unfollowed := true, recurses := true, apart := false }
def SpanNormsSaid : Prop := spanNormsRow.holds Try.pinned (OpenSpec.ofChange spanNormsSpec)

/-- ITS FALSE NEIGHBOUR: 'it returns false'. Refute it at one input. -/
def spanNormsWrong : ChangeSpec := { name := "spanNorms", fn := fun _ => fun
  | [d1, d2] => { results := [.lit (.bool false)], args := [d1, d2] }
  | _ => none }
def SpanNormsWrongFalsely : Prop := spanNormsRow.holds Try.pinned (OpenSpec.ofChange spanNormsWrong)

/-- 'dragomanlaw01.SpanCuts': WHATEVER THE INPUT: true; the input reads as it did. -/
def spanCutsSpec : ChangeSpec := { name := "spanCuts", fn := fun _ => fun
  | [d] => { results := [.lit (.bool true)], args := [d] }
  | _ => none }
def spanCutsRow : OpenClaim := { program := "ytconaifcjnpabaa", sum := "1cdfc4974524da885a7b7332c8b7530c856cc1bf1821052ce8dd6c9609b00585", func := "dragoman/dragomanlaw01.SpanCuts", spec := "spanCuts", unfollowed := true, recurses := true, apart := false }
def SpanCutsSaid : Prop := spanCutsRow.holds Try.pinned (OpenSpec.ofChange spanCutsSpec)

/-- ITS FALSE NEIGHBOUR: 'it returns false'. Refute it at one input. -/
def spanCutsWrong : ChangeSpec := { name := "spanCuts", fn := fun _ => fun
  | [d] => { results := [.lit (.bool false)], args := [d] }
  | _ => none }
def SpanCutsWrongFalsely : Prop := spanCutsRow.holds Try.pinned (OpenSpec.ofChange spanCutsWrong)

/-- 'dragomanlaw01.SpanSets': WHATEVER THE INPUT: true; the input reads as it did. -/
def spanSetsSpec : ChangeSpec := { name := "spanSets", fn := fun _ => fun
  | [d1, d2] => { results := [.lit (.bool true)], args := [d1, d2] }
  | _ => none }
def spanSetsRow : OpenClaim := { program := "ytconaifcjnpabaa", sum := "1cdfc4974524da885a7b7332c8b7530c856cc1bf1821052ce8dd6c9609b00585", func := "dragoman/dragomanlaw01.SpanSets", spec := "spanSets", unfollowed := true, recurses := true, apart := false }
def SpanSetsSaid : Prop := spanSetsRow.holds Try.pinned (OpenSpec.ofChange spanSetsSpec)

/-- ITS FALSE NEIGHBOUR: 'it returns false'. Refute it at one input. -/
def spanSetsWrong : ChangeSpec := { name := "spanSets", fn := fun _ => fun
  | [d1, d2] => { results := [.lit (.bool false)], args := [d1, d2] }
  | _ => none }
def SpanSetsWrongFalsely : Prop := spanSetsRow.holds Try.pinned (OpenSpec.ofChange spanSetsWrong)

/-- 'dragomanlaw01.SpanLaws': WHATEVER THE INPUT: true; the input reads as it did. -/
def spanLawsSpec : ChangeSpec := { name := "spanLaws", fn := fun _ => fun
  | [d1, d2, d3] => { results := [.lit (.bool true)], args := [d1, d2, d3] }
  | _ => none }
def spanLawsRow : OpenClaim := { program := "ytconaifcjnpabaa", sum := "1cdfc4974524da885a7b7332c8b7530c856cc1bf1821052ce8dd6c9609b00585", func := "dragoman/dragomanlaw01.SpanLaws", spec := "spanLaws", unfollowed := true, recurses := true, apart := false }
def SpanLawsSaid : Prop := spanLawsRow.holds Try.pinned (OpenSpec.ofChange spanLawsSpec)

/-- ITS FALSE NEIGHBOUR: 'it returns false'. Refute it at one input. -/
def spanLawsWrong : ChangeSpec := { name := "spanLaws", fn := fun _ => fun
  | [d1, d2, d3] => { results := [.lit (.bool false)], args := [d1, d2, d3] }
  | _ => none }
def SpanLawsWrongFalsely : Prop := spanLawsRow.holds Try.pinned (OpenSpec.ofChange spanLawsWrong)

/- THE SECOND FORM. 'bulk': how many values and letters a reading holds, each counted each time it is reached (what is shared counts as often as it is met; a slice's spare places count too). A statement '..UptoSaid' is the law's where the arguments, and the package variables that the reading takes, are together of bulk at most 1048576: NARROWER than '..Said'. Prove '..Said' where nothing that the law and all that it calls make is longer than what came in: it says more and counts as full. Else prove '..UptoSaid'. A law counts once. -/
mutual
def uptoBulk {H : Type} : DataW H → Nat
  | .lit (.string bytes) => bytes.length + 1
  | .lit _ => 1
  | .nil => 1
  | .ptr d => uptoBulk d + 1
  | .slice elems spare => uptoBulkAll elems + uptoBulkAll spare + 1
  | .agg parts => uptoBulkAll parts + 1
  | .iface _ d => uptoBulk d + 1
  | .map entries => uptoBulkEntries entries + 1
  | .held _ => 1
def uptoBulkAll {H : Type} : List (DataW H) → Nat
  | [] => 0
  | d :: r => uptoBulk d + uptoBulkAll r
def uptoBulkEntries {H : Type} : List (Lit × DataW H) → Nat
  | [] => 0
  | x :: r => uptoBulkEntry x + uptoBulkEntries r
def uptoBulkEntry {H : Type} : Lit × DataW H → Nat
  | (.string bytes, d) => bytes.length + uptoBulk d + 1
  | (_, d) => uptoBulk d + 1
 end
def uptoSmall : (H : Type) → List (DataW H) → Bool := fun _ ds => decide (uptoBulkAll ds ≤ 1048576)
def OpenSpec.upto (s : _root_.Go.ChangeSpec) : _root_.Go.OpenSpec := { _root_.Go.OpenSpec.ofChange s with cond := some uptoSmall }

/-- 'dragomanlaw01.SpanAtoms', WHERE WHAT IT READS IS OF BULK AT MOST 1048576: true; the input reads as it did. -/
def spanAtomsUptoRow : OpenClaim := { program := "ytconaifcjnpabaa", sum := "1cdfc4974524da885a7b7332c8b7530c856cc1bf1821052ce8dd6c9609b00585", func := "dragoman/dragomanlaw01.SpanAtoms", spec := "spanAtoms", unfollowed := true, recurses := true, apart := false, narrowed := true }
def SpanAtomsUptoSaid : Prop := spanAtomsUptoRow.holds Try.pinned (OpenSpec.upto spanAtomsSpec)

/-- 'dragomanlaw01.SpanNorms', WHERE WHAT IT READS IS OF BULK AT MOST 1048576: true; the input reads as it did. -/
def spanNormsUptoRow : OpenClaim := { program := "ytconaifcjnpabaa", sum := "1cdfc4974524da885a7b7332c8b7530c856cc1bf1821052ce8dd6c9609b00585", func := "dragoman/dragomanlaw01.SpanNorms", spec := "spanNorms", unfollowed := true, recurses := true, apart := false, narrowed := true }
def SpanNormsUptoSaid : Prop := spanNormsUptoRow.holds Try.pinned (OpenSpec.upto spanNormsSpec)

/-- 'dragomanlaw01.SpanCuts', WHERE WHAT IT READS IS OF BULK AT MOST 1048576: true; the input reads as it did. -/
def spanCutsUptoRow : OpenClaim := { program := "ytconaifcjnpabaa", sum := "1cdfc4974524da885a7b7332c8b7530c856cc1bf1821052ce8dd6c9609b00585", func := "dragoman/dragomanlaw01.SpanCuts", spec := "spanCuts", unfollowed := true, recurses := true, apart := false, narrowed := true }
def SpanCutsUptoSaid : Prop := spanCutsUptoRow.holds Try.pinned (OpenSpec.upto spanCutsSpec)

/-- 'dragomanlaw01.SpanSets', WHERE WHAT IT READS IS OF BULK AT MOST 1048576: true; the input reads as it did. -/
def spanSetsUptoRow : OpenClaim := { program := "ytconaifcjnpabaa", sum := "1cdfc4974524da885a7b7332c8b7530c856cc1bf1821052ce8dd6c9609b00585", func := "dragoman/dragomanlaw01.SpanSets", spec := "spanSets", unfollowed := true, recurses := true, apart := false, narrowed := true }
def SpanSetsUptoSaid : Prop := spanSetsUptoRow.holds Try.pinned (OpenSpec.upto spanSetsSpec)

/-- 'dragomanlaw01.SpanLaws', WHERE WHAT IT READS IS OF BULK AT MOST 1048576: true; the input reads as it did. -/
def spanLawsUptoRow : OpenClaim := { program := "ytconaifcjnpabaa", sum := "1cdfc4974524da885a7b7332c8b7530c856cc1bf1821052ce8dd6c9609b00585", func := "dragoman/dragomanlaw01.SpanLaws", spec := "spanLaws", unfollowed := true, recurses := true, apart := false, narrowed := true }
def SpanLawsUptoSaid : Prop := spanLawsUptoRow.holds Try.pinned (OpenSpec.upto spanLawsSpec)

end Rows
end Go.Proofs.Ytconaifcjnpabaa
