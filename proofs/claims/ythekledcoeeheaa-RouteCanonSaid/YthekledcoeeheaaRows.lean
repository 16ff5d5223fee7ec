/-
  No cell of these rows narrows 'for every input' (looked for: loops, veiled, ifaces, maps, wideKeys, modest, calm, conditions, laid).
  DERIVED. THE GIVEN ROWS OF THIS SEAT. 10 by the template 'for every input the law returns true; each argument reads behind the call as it read before'; 0 by the template 'total and deterministic' (their statements: YthekledcoeeheaaTotals.lean).
  GIVEN WITH THE SEED: the statements are not yours to turn. If you find one false, say at which input.
  Laid BY PROGRAM, IN A SANDBOX (cutbox-rows.mjs): the forced cells as the released guide's own fill.sh prints them over the translation f1e2508b93615f89… (all of the seat's roots in one cut). By AI agents, Wed Nov 11 2026. No macro, syntax, notation, axiom, sorry.
-/
import Derived.Test.YthekledcoeeheaaChecked
import GoSem.Claim
import GoSem.ClaimJoined
import GoSem.ClaimMapViews
import Derived.JoinedTies
import Derived.KernelRfl
namespace Go.Proofs.Ythekledcoeeheaa
/- THE CELL 'sum', in the pinned program and in every row, IS THE sha256 OF THE DUMP (.gsa) THAT YthekledcoeeheaaProg.lean LOADS. Nothing in Lean hashes anything: it is a label: what it is worth is what the hold of that sum in a sandbox is worth. -/
noncomputable def Try.pinned : Pinned := { name := "ythekledcoeeheaa", sum := "f1e2508b93615f89c6ca08612dc599587084b3a4dadbeb4c1b319b136b5025d3", checked := Try.checked }
namespace Rows
def none {H : Type} : Left H := { results := [], args := [] }

/-- 'dragomanlaw26.RibLoc': WHATEVER THE INPUT: true; the input reads as it did. -/
def ribLocSpec : ChangeSpec := { name := "ribLoc", fn := fun _ => fun
  | [d] => { results := [.lit (.bool true)], args := [d] }
  | _ => none }
def ribLocRow : OpenClaim := { program := "ythekledcoeeheaa", sum := "f1e2508b93615f89c6ca08612dc599587084b3a4dadbeb4c1b319b136b5025d3", func := "dragoman/dragomanlaw26.RibLoc", spec := "ribLoc", unfollowed := true, recurses := true, plainKeys := false, apart := false }
def RibLocSaid : Prop := ribLocRow.holds Try.pinned (OpenSpec.ofChange ribLocSpec)

/-- ITS FALSE NEIGHBOUR: 'it returns false'. Refute it at one input. -/
def ribLocWrong : ChangeSpec := { name := "ribLoc", fn := fun _ => fun
  | [d] => { results := [.lit (.bool false)], args := [d] }
  | _ => none }
def RibLocWrongFalsely : Prop := ribLocRow.holds Try.pinned (OpenSpec.ofChange ribLocWrong)

/-- 'dragomanlaw26.RibPut': WHATEVER THE INPUT: true; the input reads as it did. -/
def ribPutSpec : ChangeSpec := { name := "ribPut", fn := fun _ => fun
  | [d1, d2, d3] => { results := [.lit (.bool true)], args := [d1, d2, d3] }
  | _ => none }
def ribPutRow : OpenClaim := { program := "ythekledcoeeheaa", sum := "f1e2508b93615f89c6ca08612dc599587084b3a4dadbeb4c1b319b136b5025d3", func := "dragoman/dragomanlaw26.RibPut", spec := "ribPut", unfollowed := true, recurses := true, plainKeys := false, apart := false }
def RibPutSaid : Prop := ribPutRow.holds Try.pinned (OpenSpec.ofChange ribPutSpec)

/-- ITS FALSE NEIGHBOUR: 'it returns false'. Refute it at one input. -/
def ribPutWrong : ChangeSpec := { name := "ribPut", fn := fun _ => fun
  | [d1, d2, d3] => { results := [.lit (.bool false)], args := [d1, d2, d3] }
  | _ => none }
def RibPutWrongFalsely : Prop := ribPutRow.holds Try.pinned (OpenSpec.ofChange ribPutWrong)

/-- 'dragomanlaw26.RibOrder': WHATEVER THE INPUT: true; the input reads as it did. -/
def ribOrderSpec : ChangeSpec := { name := "ribOrder", fn := fun _ => fun
  | [d] => { results := [.lit (.bool true)], args := [d] }
  | _ => none }
def ribOrderRow : OpenClaim := { program := "ythekledcoeeheaa", sum := "f1e2508b93615f89c6ca08612dc599587084b3a4dadbeb4c1b319b136b5025d3", func := "dragoman/dragomanlaw26.RibOrder", spec := "ribOrder", unfollowed := true, recurses := true, plainKeys := false, apart := false }
def RibOrderSaid : Prop := ribOrderRow.holds Try.pinned (OpenSpec.ofChange ribOrderSpec)

/-- ITS FALSE NEIGHBOUR: 'it returns false'. Refute it at one input. -/
def ribOrderWrong : ChangeSpec := { name := "ribOrder", fn := fun _ => fun
  | [d] => { results := [.lit (.bool false)], args := [d] }
  | _ => none }
def RibOrderWrongFalsely : Prop := ribOrderRow.holds Try.pinned (OpenSpec.ofChange ribOrderWrong)

/-- 'dragomanlaw03.RouteValid': WHATEVER THE INPUT: true; the input reads as it did. -/
def routeValidSpec : ChangeSpec := { name := "routeValid", fn := fun _ => fun
  | [d] => { results := [.lit (.bool true)], args := [d] }
  | _ => none }
def routeValidRow : OpenClaim := { program := "ythekledcoeeheaa", sum := "f1e2508b93615f89c6ca08612dc599587084b3a4dadbeb4c1b319b136b5025d3", func := "dragoman/dragomanlaw03.RouteValid", spec := "routeValid", recurses := true, plainKeys := false, apart := false }
def RouteValidSaid : Prop := routeValidRow.holds Try.pinned (OpenSpec.ofChange routeValidSpec)

/-- ITS FALSE NEIGHBOUR: 'it returns false'. Refute it at one input. -/
def routeValidWrong : ChangeSpec := { name := "routeValid", fn := fun _ => fun
  | [d] => { results := [.lit (.bool false)], args := [d] }
  | _ => none }
def RouteValidWrongFalsely : Prop := routeValidRow.holds Try.pinned (OpenSpec.ofChange routeValidWrong)

/-- 'dragomanlaw03.RouteCanon': WHATEVER THE INPUT: true; the input reads as it did. -/
def routeCanonSpec : ChangeSpec := { name := "routeCanon", fn := fun _ => fun
  | [d] => { results := [.lit (.bool true)], args := [d] }
  | _ => none }
def routeCanonRow : OpenClaim := { program := "ythekledcoeeheaa", sum := "f1e2508b93615f89c6ca08612dc599587084b3a4dadbeb4c1b319b136b5025d3", func := "dragoman/dragomanlaw03.RouteCanon", spec := "routeCanon", recurses := true, plainKeys := false, apart := false }
def RouteCanonSaid : Prop := routeCanonRow.holds Try.pinned (OpenSpec.ofChange routeCanonSpec)

/-- ITS FALSE NEIGHBOUR: 'it returns false'. Refute it at one input. -/
def routeCanonWrong : ChangeSpec := { name := "routeCanon", fn := fun _ => fun
  | [d] => { results := [.lit (.bool false)], args := [d] }
  | _ => none }
def RouteCanonWrongFalsely : Prop := routeCanonRow.holds Try.pinned (OpenSpec.ofChange routeCanonWrong)

/-- 'dragomanlaw03.RouteCmp': WHATEVER THE INPUT: true; the input reads as it did. -/
def routeCmpSpec : ChangeSpec := { name := "routeCmp", fn := fun _ => fun
  | [d1, d2] => { results := [.lit (.bool true)], args := [d1, d2] }
  | _ => none }
def routeCmpRow : OpenClaim := { program := "ythekledcoeeheaa", sum := "f1e2508b93615f89c6ca08612dc599587084b3a4dadbeb4c1b319b136b5025d3", func := "dragoman/dragomanlaw03.RouteCmp", spec := "routeCmp", recurses := true, plainKeys := false, apart := false }
def RouteCmpSaid : Prop := routeCmpRow.holds Try.pinned (OpenSpec.ofChange routeCmpSpec)

/-- ITS FALSE NEIGHBOUR: 'it returns false'. Refute it at one input. -/
def routeCmpWrong : ChangeSpec := { name := "routeCmp", fn := fun _ => fun
  | [d1, d2] => { results := [.lit (.bool false)], args := [d1, d2] }
  | _ => none }
def RouteCmpWrongFalsely : Prop := routeCmpRow.holds Try.pinned (OpenSpec.ofChange routeCmpWrong)

/-- 'dragomanlaw03.RouteOrder': WHATEVER THE INPUT: true; the input reads as it did. -/
def routeOrderSpec : ChangeSpec := { name := "routeOrder", fn := fun _ => fun
  | [d1, d2, d3] => { results := [.lit (.bool true)], args := [d1, d2, d3] }
  | _ => none }
def routeOrderRow : OpenClaim := { program := "ythekledcoeeheaa", sum := "f1e2508b93615f89c6ca08612dc599587084b3a4dadbeb4c1b319b136b5025d3", func := "dragoman/dragomanlaw03.RouteOrder", spec := "routeOrder", recurses := true, plainKeys := false, apart := false }
def RouteOrderSaid : Prop := routeOrderRow.holds Try.pinned (OpenSpec.ofChange routeOrderSpec)

/-- ITS FALSE NEIGHBOUR: 'it returns false'. Refute it at one input. -/
def routeOrderWrong : ChangeSpec := { name := "routeOrder", fn := fun _ => fun
  | [d1, d2, d3] => { results := [.lit (.bool false)], args := [d1, d2, d3] }
  | _ => none }
def RouteOrderWrongFalsely : Prop := routeOrderRow.holds Try.pinned (OpenSpec.ofChange routeOrderWrong)

/-- 'dragomanlaw03.RouteOne': WHATEVER THE INPUT: true; the input reads as it did. -/
def routeOneSpec : ChangeSpec := { name := "routeOne", fn := fun _ => fun
  | [d] => { results := [.lit (.bool true)], args := [d] }
  | _ => none }
def routeOneRow : OpenClaim := { program := "ythekledcoeeheaa", sum := "f1e2508b93615f89c6ca08612dc599587084b3a4dadbeb4c1b319b136b5025d3", func := "dragoman/dragomanlaw03.RouteOne", spec := "routeOne", recurses := true, plainKeys := false, apart := false }
def RouteOneSaid : Prop := routeOneRow.holds Try.pinned (OpenSpec.ofChange routeOneSpec)

/-- ITS FALSE NEIGHBOUR: 'it returns false'. Refute it at one input. -/
def routeOneWrong : ChangeSpec := { name := "routeOne", fn := fun _ => fun
  | [d] => { results := [.lit (.bool false)], args := [d] }
  | _ => none }
def RouteOneWrongFalsely : Prop := routeOneRow.holds Try.pinned (OpenSpec.ofChange routeOneWrong)

/-- 'dragomanlaw26.RibDiff': WHATEVER THE INPUT: true; the input reads as it did. -/
def ribDiffSpec : ChangeSpec := { name := "ribDiff", fn := fun _ => fun
  | [d1, d2] => { results := [.lit (.bool true)], args := [d1, d2] }
  | _ => none }
def ribDiffRow : OpenClaim := { program := "ythekledcoeeheaa", sum := "f1e2508b93615f89c6ca08612dc599587084b3a4dadbeb4c1b319b136b5025d3", func := "dragoman/dragomanlaw26.RibDiff", spec := "ribDiff", unfollowed := true, recurses := true, plainKeys := false, apart := false }
def RibDiffSaid : Prop := ribDiffRow.holds Try.pinned (OpenSpec.ofChange ribDiffSpec)

/-- ITS FALSE NEIGHBOUR: 'it returns false'. Refute it at one input. -/
def ribDiffWrong : ChangeSpec := { name := "ribDiff", fn := fun _ => fun
  | [d1, d2] => { results := [.lit (.bool false)], args := [d1, d2] }
  | _ => none }
def RibDiffWrongFalsely : Prop := ribDiffRow.holds Try.pinned (OpenSpec.ofChange ribDiffWrong)

/-- 'dragomanlaw26.RibMakes': WHATEVER THE INPUT: true; the input reads as it did. -/
def ribMakesSpec : ChangeSpec := { name := "ribMakes", fn := fun _ => fun
  | [d1, d2] => { results := [.lit (.bool true)], args := [d1, d2] }
  | _ => none }
def ribMakesRow : OpenClaim := { program := "ythekledcoeeheaa", sum := "f1e2508b93615f89c6ca08612dc599587084b3a4dadbeb4c1b319b136b5025d3", func := "dragoman/dragomanlaw26.RibMakes", spec := "ribMakes", unfollowed := true, recurses := true, plainKeys := false, apart := false }
def RibMakesSaid : Prop := ribMakesRow.holds Try.pinned (OpenSpec.ofChange ribMakesSpec)

/-- ITS FALSE NEIGHBOUR: 'it returns false'. Refute it at one input. -/
def ribMakesWrong : ChangeSpec := { name := "ribMakes", fn := fun _ => fun
  | [d1, d2] => { results := [.lit (.bool false)], args := [d1, d2] }
  | _ => none }
def RibMakesWrongFalsely : Prop := ribMakesRow.holds Try.pinned (OpenSpec.ofChange ribMakesWrong)

/- THE SECOND FORM. 'bulk': how many values and letters a reading holds, each counted each time it is reached (what is shared counts as often as it is met; a slice's spare places count too). A statement '..UptoSaid' is the law's where the arguments, and the package variables that the reading takes, are together of bulk at most 1048576: NARROWER than '..Said'. Prove '..Said' where nothing that the law and all that it calls make is longer than what came in: it says more and counts as full. Else prove '..UptoSaid'. A law counts once. -/
mutual
def uptoBulk {H : Type} : DataW H → Nat
  | .lit (.string bytes) => bytes.length + 1
  | .lit _ => 1
  | .nil => 1
  | .ptr d => uptoBulk d + 1
  | .slice elems spare => uptoBulkAll elems + uptoBulkAll spare + 1
  | .agg parts => uptoBulkAll parts + 1
  | .iface _ d => uptoBulk d + 1
  | .map entries => uptoBulkEntries entries + 1
  | .held _ => 1
def uptoBulkAll {H : Type} : List (DataW H) → Nat
  | [] => 0
  | d :: r => uptoBulk d + uptoBulkAll r
def uptoBulkEntries {H : Type} : List (Lit × DataW H) → Nat
  | [] => 0
  | x :: r => uptoBulkEntry x + uptoBulkEntries r
def uptoBulkEntry {H : Type} : Lit × DataW H → Nat
  | (.string bytes, d) => bytes.length + uptoBulk d + 1
  | (_, d) => uptoBulk d + 1
 end
def uptoSmall : (H : Type) → List (DataW H) → Bool := fun _ ds => decide (uptoBulkAll ds ≤ 1048576)
def OpenSpec.upto (s : _root_.Go.ChangeSpec) : _root_.Go.OpenSpec := { _root_.Go.OpenSpec.ofChange s with cond := some uptoSmall }

/-- 'dragomanlaw26.RibLoc', WHERE WHAT IT READS IS OF BULK AT MOST 1048576: true; the input reads as it did. -/
def ribLocUptoRow : OpenClaim := { program := "ythekledcoeeheaa", sum := "f1e2508b93615f89c6ca08612dc599587084b3a4dadbeb4c1b319b136b5025d3", func := "dragoman/dragomanlaw26.RibLoc", spec := "ribLoc", unfollowed := true, recurses := true, plainKeys := false, apart := false, narrowed := true }
def RibLocUptoSaid : Prop := ribLocUptoRow.holds Try.pinned (OpenSpec.upto ribLocSpec)

/-- 'dragomanlaw26.RibPut', WHERE WHAT IT READS IS OF BULK AT MOST 1048576: true; the input reads as it did. -/
def ribPutUptoRow : OpenClaim := { program := "ythekledcoeeheaa", sum := "f1e2508b93615f89c6ca08612dc599587084b3a4dadbeb4c1b319b136b5025d3", func := "dragoman/dragomanlaw26.RibPut", spec := "ribPut", unfollowed := true, recurses := true, plainKeys := false, apart := false, narrowed := true }
def RibPutUptoSaid : Prop := ribPutUptoRow.holds Try.pinned (OpenSpec.upto ribPutSpec)

/-- 'dragomanlaw26.RibOrder', WHERE WHAT IT READS IS OF BULK AT MOST 1048576: true; the input reads as it did. -/
def ribOrderUptoRow : OpenClaim := { program := "ythekledcoeeheaa", sum := "f1e2508b93615f89c6ca08612dc599587084b3a4dadbeb4c1b319b136b5025d3", func := "dragoman/dragomanlaw26.RibOrder", spec := "ribOrder", unfollowed := true, recurses := true, plainKeys := false, apart := false, narrowed := true }
def RibOrderUptoSaid : Prop := ribOrderUptoRow.holds Try.pinned (OpenSpec.upto ribOrderSpec)

/-- 'dragomanlaw03.RouteValid', WHERE WHAT IT READS IS OF BULK AT MOST 1048576: true; the input reads as it did. -/
def routeValidUptoRow : OpenClaim := { program := "ythekledcoeeheaa", sum := "f1e2508b93615f89c6ca08612dc599587084b3a4dadbeb4c1b319b136b5025d3", func := "dragoman/dragomanlaw03.RouteValid", spec := "routeValid", recurses := true, plainKeys := false, apart := false, narrowed := true }
def RouteValidUptoSaid : Prop := routeValidUptoRow.holds Try.pinned (OpenSpec.upto routeValidSpec)

/-- 'dragomanlaw03.RouteCanon', WHERE WHAT IT READS IS OF BULK AT MOST 1048576: true; the input reads as it did. -/
def routeCanonUptoRow : OpenClaim := { program := "ythekledcoeeheaa", sum := "f1e2508b93615f89c6ca08612dc599587084b3a4dadbeb4c1b319b136b5025d3", func := "dragoman/dragomanlaw03.RouteCanon", spec := "routeCanon", recurses := true, plainKeys := false, apart := false, narrowed := true }
def RouteCanonUptoSaid : Prop := routeCanonUptoRow.holds Try.pinned (OpenSpec.upto routeCanonSpec)

/-- 'dragomanlaw03.RouteCmp', WHERE WHAT IT READS IS OF BULK AT MOST 1048576: true; the input reads as it did. -/
def routeCmpUptoRow : OpenClaim := { program := "ythekledcoeeheaa", sum := "f1e2508b93615f89c6ca08612dc599587084b3a4dadbeb4c1b319b136b5025d3", func := "dragoman/dragomanlaw03.RouteCmp", spec := "routeCmp", recurses := true, plainKeys := false, apart := false, narrowed := true }
def RouteCmpUptoSaid : Prop := routeCmpUptoRow.holds Try.pinned (OpenSpec.upto routeCmpSpec)

/-- 'dragomanlaw03.RouteOrder', WHERE WHAT IT READS IS OF BULK AT MOST 1048576: true; the input reads as it did. -/
def routeOrderUptoRow : OpenClaim := { program := "ythekledcoeeheaa", sum := "f1e2508b93615f89c6ca08612dc599587084b3a4dadbeb4c1b319b136b5025d3", func := "dragoman/dragomanlaw03.RouteOrder", spec := "routeOrder", recurses := true, plainKeys := false, apart := false, narrowed := true }
def RouteOrderUptoSaid : Prop := routeOrderUptoRow.holds Try.pinned (OpenSpec.upto routeOrderSpec)

/-- 'dragomanlaw03.RouteOne', WHERE WHAT IT READS IS OF BULK AT MOST 1048576: true; the input reads as it did. -/
def routeOneUptoRow : OpenClaim := { program := "ythekledcoeeheaa", sum := "f1e2508b93615f89c6ca08612dc599587084b3a4dadbeb4c1b319b136b5025d3", func := "dragoman/dragomanlaw03.RouteOne", spec := "routeOne", recurses := true, plainKeys := false, apart := false, narrowed := true }
def RouteOneUptoSaid : Prop := routeOneUptoRow.holds Try.pinned (OpenSpec.upto routeOneSpec)

/-- 'dragomanlaw26.RibDiff', WHERE WHAT IT READS IS OF BULK AT MOST 1048576: true; the input reads as it did. -/
def ribDiffUptoRow : OpenClaim := { program := "ythekledcoeeheaa", sum := "f1e2508b93615f89c6ca08612dc599587084b3a4dadbeb4c1b319b136b5025d3", func := "dragoman/dragomanlaw26.RibDiff", spec := "ribDiff", unfollowed := true, recurses := true, plainKeys := false, apart := false, narrowed := true }
def RibDiffUptoSaid : Prop := ribDiffUptoRow.holds Try.pinned (OpenSpec.upto ribDiffSpec)

/-- 'dragomanlaw26.RibMakes', WHERE WHAT IT READS IS OF BULK AT MOST 1048576: true; the input reads as it did. -/
def ribMakesUptoRow : OpenClaim := { program := "ythekledcoeeheaa", sum := "f1e2508b93615f89c6ca08612dc599587084b3a4dadbeb4c1b319b136b5025d3", func := "dragoman/dragomanlaw26.RibMakes", spec := "ribMakes", unfollowed := true, recurses := true, plainKeys := false, apart := false, narrowed := true }
def RibMakesUptoSaid : Prop := ribMakesUptoRow.holds Try.pinned (OpenSpec.upto ribMakesSpec)

end Rows
end Go.Proofs.Ythekledcoeeheaa
