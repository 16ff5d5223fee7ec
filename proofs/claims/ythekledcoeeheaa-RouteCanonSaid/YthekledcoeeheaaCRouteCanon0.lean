/- Part of the proof of the law RouteCanon: the functions that it reaches, by contract. -/
import Derived.Test.YthekledcoeeheaaProg
import Derived.Below
import Derived.Deep.Draws
import Derived.Deep.AppendLies
import Derived.Maps.AppendAt
import Derived.OwnWalk
import Derived.Laws.BytesArg
import Derived.Laws.MakeOwn
import Derived.Laws.OwnMore
import Derived.Deep.OwnRows
import Derived.Tactics
import Derived.Lib.ConvBytes
import Derived.Laws.Slices
import Derived.WalkKit
import Derived.KernelRfl
import Derived.RowKit3
import Derived.Deep.LoopGhost
import Derived.Deep.QuietTactic
import Derived.BigQuiet
import Derived.WideLaws
import Derived.Deep.DeepCutAuto
import Derived.Deep.CutBlock
import Derived.Deep.RegionHeld3
import Derived.Laws.Rows
import Derived.Lib.AppendStr
import Derived.ArgAppend
import Derived.Laws.IdiomCopy
import Derived.OrdersHeld
import Derived.Laws.BitsLemmas
import Derived.RowKit
import Derived.WalkMore
import Derived.Test.YthekledcoeeheaaCRouteCanonVWords
import Derived.Test.YthekledcoeeheaaCRouteCanonVLast
import Derived.Test.YthekledcoeeheaaCRouteCanonVTab
import Derived.Test.YthekledcoeeheaaCRouteCanonVQPut
import Derived.Test.YthekledcoeeheaaCRouteCanonVApart
import Derived.Test.YthekledcoeeheaaCRouteCanonVArr
import Derived.Test.YthekledcoeeheaaCRouteCanonVZeros
import Derived.Test.YthekledcoeeheaaCRouteCanonVFoot
import Derived.Test.YthekledcoeeheaaCRouteCanonVKept
import Derived.Test.YthekledcoeeheaaCRouteCanonVShare
import Derived.Test.YthekledcoeeheaaCRouteCanonVN
import Derived.Test.YthekledcoeeheaaCRouteCanonVEqStruct
import Derived.Test.YthekledcoeeheaaCRouteCanonVRepsOne
import Derived.Test.YthekledcoeeheaaCRouteCanonVInv
import Derived.Test.YthekledcoeeheaaCRouteCanonVGuard
import Derived.Test.YthekledcoeeheaaCRouteCanonVNEv
import Derived.Test.YthekledcoeeheaaCRouteCanonVMore
import Derived.Shelf.GgSortFunc.RowK
import Derived.Shelf.SlicesE.Compact
import Derived.Lib.Hide
import Derived.Shelf.SlSortCmp.Kit1
import Derived.Sort.WalkC4
import Derived.Sort.WalkB12
import Derived.Sort.AssemblyPlain
import Derived.RegionTactic
import Derived.Sort.WalkB3
import Derived.Sort.LotD4
import Derived.Sort.Walk7
import Derived.Shelf.SlSortCmp.Xorshift
import Derived.Sort.Walk13a
import Derived.Sort.LotB
import Derived.Deep.Cut
import Derived.Lib.BitFns
import Derived.Sort.WalkA14
set_option linter.unusedVariables false
set_option linter.unusedSimpArgs false
namespace Go.Proofs.Ythekledcoeeheaa.P
open Go.RowKit Go.Proofs.YthekledcoeeheaaW.PrintWords Go.Proofs.YthekledcoeeheaaW.PrintLast Go.Proofs.YthekledcoeeheaaW.PrintMore
attribute [local go_sem] max2_int min2_int max_two min_two max_three min_three max_four min_four
def errW : Option Int → Value
  | none => .nilIface
  | some c => .iface 0 (.int .i64 c)
theorem errW_none : errW none = .nilIface := rfl
theorem errW_some (c : Int) : errW (some c) = .iface 0 (.int .i64 c) := rfl

theorem info33 : (Try.prog.info? 33).map (fun i => (i.zero, i.size, i.bytes)) = some (some (.int .u32 0), 1, 4) := by kernel_rfl
/-! #### struct type 35 -/
structure S35 where
  f0 : Int
  f1 : Int
def k35 : Kd S35 := Kd.iso (Kd.pair (Kd.int .u32) (Kd.int .i64)) (fun x : S35 => (x.f0, x.f1))
theorem k35_open {w : World} {x : S35} {cs : List Value} (h : k35.K w x cs) : cs = [.int .u32 x.f0, .int .i64 x.f1] := by
  obtain ⟨_, _, rfl, rfl, rfl⟩ := h
  exact rfl
/-! #### struct type 38 -/
structure S38 where
  f0 : S35
  f1 : (List Int)
  f2 : (List Int)
  f3 : Int
  f4 : Int
  f5 : Int
  f6 : Int
def k38 : Kd S38 := Kd.iso (Kd.pair k35 (Kd.pair (Kd.slice 33 (Kd.int .u32)) (Kd.pair (Kd.slice 33 (Kd.int .u32)) (Kd.pair (Kd.int .u32) (Kd.pair (Kd.int .u32) (Kd.pair (Kd.int .i64) (Kd.int .u32))))))) (fun x : S38 => (x.f0, x.f1, x.f2, x.f3, x.f4, x.f5, x.f6))
theorem k38_open {w : World} {x : S38} {cs : List Value} (h : k38.K w x cs) : ∃ A2 c2 A3 c3, cs = [.int .u32 x.f0.f0, .int .i64 x.f0.f1, .slice A2 x.f1.length c2, .slice A3 x.f2.length c3, .int .u32 x.f3, .int .u32 x.f4, .int .i64 x.f5, .int .u32 x.f6] ∧ x.f1.length ≤ c2 ∧ (Kd.int .u32).C w A2 x.f1.length x.f1 ∧ x.f2.length ≤ c3 ∧ (Kd.int .u32).C w A3 x.f2.length x.f2 := by
  obtain ⟨_, _, rfl, s0, ⟨_, _, rfl, ⟨A2, c2, rfl, l2, g2⟩, ⟨_, _, rfl, ⟨A3, c3, rfl, l3, g3⟩, ⟨_, _, rfl, rfl, ⟨_, _, rfl, rfl, ⟨_, _, rfl, rfl, rfl⟩⟩⟩⟩⟩⟩ := h
  obtain rfl := k35_open s0
  exact ⟨A2, c2, A3, c3, rfl, l2, g2, l3, g3⟩
def arrA85 (c0 c1 c2 c3 c4 c5 c6 c7 : Int) (i : Int) : Int := if i = 0 then c0 else if i = 1 then c1 else if i = 2 then c2 else if i = 3 then c3 else if i = 4 then c4 else if i = 5 then c5 else if i = 6 then c6 else c7
theorem arrA85_run (c0 c1 c2 c3 c4 c5 c6 c7 i : Int) (h0 : 0 ≤ i) (h1 : i < 8) : ∀ w : World, (Instr.index 85 (.agg #[.int .i64 c0, .int .i64 c1, .int .i64 c2, .int .i64 c3, .int .i64 c4, .int .i64 c5, .int .i64 c6, .int .i64 c7]) (.int .i64 i)).run Try.prog w = .ok (.int .i64 (arrA85 c0 c1 c2 c3 c4 c5 c6 c7 i)) w := by
  have hk : i = 0 ∨ i = 1 ∨ i = 2 ∨ i = 3 ∨ i = 4 ∨ i = 5 ∨ i = 6 ∨ i = 7 := by omega
  rcases hk with rfl | rfl | rfl | rfl | rfl | rfl | rfl | rfl <;> intro w <;> kernel_rfl
end Go.Proofs.Ythekledcoeeheaa.P
namespace Go.Proofs.Ythekledcoeeheaa.P
open Go.RowKit Go.Proofs.YthekledcoeeheaaW.PrintWords Go.Proofs.YthekledcoeeheaaW.PrintLast Go.Proofs.YthekledcoeeheaaW.PrintMore
/-! Short words for what the printed walks say again and again. -/
section
variable {W0 W W1 w : World} {g n : Nat} {o : Obj}
theorem bkW (h : Aside0 (W0.heap[g]? = some o)) (hw : W0.heap[g]? = some o → W.heap[g]? = some o := by (intro h_; (with_reducible repeat (first | refine blk_drewN ?_ _ | refine blk_drew ?_ | refine blk_alloc ?_ _)); exact h_)) : W.heap[g]? = some o := hw h.out
theorem bkV (h : Aside0 (W0.heap[g]? = some o)) (hw : W0.heap[g]? = some o → W.heap[g]? = some o := by (intro h_; (with_reducible repeat (first | refine blk_drewN ?_ _ | refine blk_drew ?_ | refine blk_alloc ?_ _ | refine blk_far ?_ (Aside0.out (by with_reducible assumption)) _)); exact h_)) : W.heap[g]? = some o := hw h.out
theorem bvB (h : Aside0 (W0.heap[g]? = some o)) (hb : Below W.heap.size W W1) (hw : W0.heap[g]? = some o → W.heap[g]? = some o := by (intro h_; (with_reducible repeat (first | refine blk_drewN ?_ _ | refine blk_drew ?_ | refine blk_alloc ?_ _ | refine blk_far ?_ (Aside0.out (by with_reducible assumption)) _)); exact h_)) : Aside0 (W1.heap[g]? = some o) := ⟨blk_below (hw h.out) hb⟩
theorem bkB (h : Aside0 (W0.heap[g]? = some o)) (hb : Below W.heap.size W W1) (hw : W0.heap[g]? = some o → W.heap[g]? = some o := by (intro h_; (with_reducible repeat (first | refine blk_drewN ?_ _ | refine blk_drew ?_ | refine blk_alloc ?_ _)); exact h_)) : Aside0 (W1.heap[g]? = some o) := ⟨blk_below (hw h.out) hb⟩
theorem hbW (h : Aside0 (Below n w W0)) (hw : Below n w W0 → Below n w W := by (intro h_; repeat (first | (with_reducible first | exact h_ | apply below_alloc | apply pw_below_drewN | apply below_drew1 | refine below_set ?_ (Aside0.out (by with_reducible assumption))) | exact h_))) : Below n w W := hw h.out
theorem hbS (h : Aside0 (Below w.heap.size w W0)) (hb : Below W.heap.size W W1) (hw : Below w.heap.size w W0 → Below w.heap.size w W := by (intro h_; repeat (first | (with_reducible first | exact h_ | apply below_alloc | apply pw_below_drewN | apply below_drew1 | refine below_set ?_ (Aside0.out (by with_reducible assumption))) | exact h_))) : Aside0 (Below w.heap.size w W1) := ⟨below_step (hw h.out) hb⟩
def TyB (w : World) (g t : Nat) : Prop := ∃ cells, w.heap[g]? = some (.cells cells t (0, 0))
theorem TyB.of {cs : Array Value} {t : Nat} (h : Aside0 (w.heap[g]? = some (.cells cs t (0, 0)))) : TyB w g t := ⟨cs, h.out⟩
theorem TyB.alloc {t : Nat} {o : Obj} (h : TyB w g t) : TyB (w.alloc o) g t := by obtain ⟨c, h⟩ := h; exact ⟨c, blk_alloc h _⟩
theorem TyB.drew {t : Nat} (h : TyB w g t) : TyB w.drew g t := h
theorem TyB.drewN {t m : Nat} (h : TyB w g t) : TyB (w.drewN m) g t := h
theorem TyB.set {t g' j : Nat} {u : Value} (h : TyB w g t) : TyB (w.setCell ⟨g', j, none⟩ u) g t := by
  obtain ⟨c, h⟩ := h
  by_cases hp : g = g'
  · subst hp
    exact ⟨_, blk_put h j u rfl⟩
  · exact ⟨c, (Below.heap_setCell w ⟨g', j, none⟩ u g hp).trans h⟩
variable {α : Type} {d : Kd α} {e base : Nat} {ok ok' : Nat → Prop} {v : Value} {xs : List α}
theorem R_setT {t j : Nat} {u : Value} (hT : TyB w g t) (hd : ∀ q, q ∈ e :: d.E → q ≠ t) (h : d.R e w base ok v xs) : d.R e (w.setCell ⟨g, j, none⟩ u) base ok v xs := by
  obtain ⟨cells, hb⟩ := hT
  exact Kd.R_set h hb hd j u
/-- A row of the call's own, some cells of other types written since. -/
theorem rW (h : Aside0 (d.R e W0 base ok v xs)) (hw : d.R e W0 base ok v xs → d.R e W base ok v xs := by (intro h_; (with_reducible repeat (first | apply Kd.R_alloc | apply Kd.R_drewN | apply Kd.R_drew | refine R_setT (by (with_reducible repeat (first | apply TyB.set | apply TyB.alloc | apply TyB.drewN | apply TyB.drew)); exact TyB.of (by with_reducible assumption)) (by decide) ?_)); exact h_)) : d.R e W base ok v xs := hw h.out
/-! A block all of whose cells were written, one by one. -/
theorem bp2 {t : Nat} {a0 a1 u0 u1 : Value} (h : Aside0 (W0.heap[g]? = some (.cells #[a0, a1] t (0, 0)))) (hw : W0.heap[g]? = some (.cells #[a0, a1] t (0, 0)) → W.heap[g]? = some (.cells #[a0, a1] t (0, 0)) := by (intro h_; (with_reducible repeat (first | refine blk_drewN ?_ _ | refine blk_drew ?_ | refine blk_alloc ?_ _ | refine blk_far ?_ (Aside0.out (by with_reducible assumption)) _)); exact h_)) : ((W.setCell ⟨g, 0, none⟩ u0).setCell ⟨g, 1, none⟩ u1).heap[g]? = some (.cells #[u0, u1] t (0, 0)) := blk_put (cs' := #[u0, u1]) (blk_put (cs' := #[u0, a1]) (hw h.out) 0 u0 rfl) 1 u1 rfl
theorem bp8 {t : Nat} {a0 a1 a2 a3 a4 a5 a6 a7 u0 u1 u2 u3 u4 u5 u6 u7 : Value} (h : Aside0 (W0.heap[g]? = some (.cells #[a0, a1, a2, a3, a4, a5, a6, a7] t (0, 0)))) (hw : W0.heap[g]? = some (.cells #[a0, a1, a2, a3, a4, a5, a6, a7] t (0, 0)) → W.heap[g]? = some (.cells #[a0, a1, a2, a3, a4, a5, a6, a7] t (0, 0)) := by (intro h_; (with_reducible repeat (first | refine blk_drewN ?_ _ | refine blk_drew ?_ | refine blk_alloc ?_ _ | refine blk_far ?_ (Aside0.out (by with_reducible assumption)) _)); exact h_)) : ((((((((W.setCell ⟨g, 0, none⟩ u0).setCell ⟨g, 1, none⟩ u1).setCell ⟨g, 2, none⟩ u2).setCell ⟨g, 3, none⟩ u3).setCell ⟨g, 4, none⟩ u4).setCell ⟨g, 5, none⟩ u5).setCell ⟨g, 6, none⟩ u6).setCell ⟨g, 7, none⟩ u7).heap[g]? = some (.cells #[u0, u1, u2, u3, u4, u5, u6, u7] t (0, 0)) := blk_put (cs' := #[u0, u1, u2, u3, u4, u5, u6, u7]) (blk_put (cs' := #[u0, u1, u2, u3, u4, u5, u6, a7]) (blk_put (cs' := #[u0, u1, u2, u3, u4, u5, a6, a7]) (blk_put (cs' := #[u0, u1, u2, u3, u4, a5, a6, a7]) (blk_put (cs' := #[u0, u1, u2, u3, a4, a5, a6, a7]) (blk_put (cs' := #[u0, u1, u2, a3, a4, a5, a6, a7]) (blk_put (cs' := #[u0, u1, a2, a3, a4, a5, a6, a7]) (blk_put (cs' := #[u0, a1, a2, a3, a4, a5, a6, a7]) (hw h.out) 0 u0 rfl) 1 u1 rfl) 2 u2 rfl) 3 u3 rfl) 4 u4 rfl) 5 u5 rfl) 6 u6 rfl) 7 u7 rfl
theorem moR (h : d.R e W base ok v xs) (hok : ∀ k, ok k → ok' k := by (intro _ hk; and_intros <;> first | exact hk | exact hk.1 | exact hk.2 | exact hk.1.1 | exact hk.1.2 | exact hk.2.1 | exact hk.2.2 | exact hk.1.1.1 | exact hk.1.1.2 | exact hk.1.2.1 | exact hk.1.2.2 | exact hk.2.1.1 | exact hk.2.1.2 | exact hk.2.2.1 | exact hk.2.2.2 | exact hk.1.1.1.1 | exact hk.1.1.1.2 | exact hk.1.1.2.1 | exact hk.1.1.2.2 | exact hk.1.2.1.1 | exact hk.1.2.1.2 | exact hk.1.2.2.1 | exact hk.1.2.2.2 | exact hk.2.1.1.1 | exact hk.2.1.1.2 | exact hk.2.1.2.1 | exact hk.2.1.2.2 | exact hk.2.2.1.1 | exact hk.2.2.1.2 | exact hk.2.2.2.1 | exact hk.2.2.2.2 | exact hk.1.1.1.1.1 | exact hk.1.1.1.1.2 | exact hk.1.1.1.2.1 | exact hk.1.1.1.2.2 | exact hk.1.1.2.1.1 | exact hk.1.1.2.1.2 | exact hk.1.1.2.2.1 | exact hk.1.1.2.2.2 | exact hk.1.2.1.1.1 | exact hk.1.2.1.1.2 | exact hk.1.2.1.2.1 | exact hk.1.2.1.2.2 | exact hk.1.2.2.1.1 | exact hk.1.2.2.1.2 | exact hk.1.2.2.2.1 | exact hk.1.2.2.2.2 | exact hk.2.1.1.1.1 | exact hk.2.1.1.1.2 | exact hk.2.1.1.2.1 | exact hk.2.1.1.2.2 | exact hk.2.1.2.1.1 | exact hk.2.1.2.1.2 | exact hk.2.1.2.2.1 | exact hk.2.1.2.2.2 | exact hk.2.2.1.1.1 | exact hk.2.2.1.1.2 | exact hk.2.2.1.2.1 | exact hk.2.2.1.2.2 | exact hk.2.2.2.1.1 | exact hk.2.2.2.1.2 | exact hk.2.2.2.2.1 | exact hk.2.2.2.2.2)) : d.R e W base ok' v xs := Kd.R_mono h hok
theorem bc2 {t : Nat} {a0 a1 : Value} (h : Aside0 (w.heap[g]? = some (.cells #[a0, a1] t (0, 0)))) : w.cell? ⟨g, 0, none⟩ = some a0 ∧ w.cell? ⟨g, 1, none⟩ = some a1 ∧ w.frozen? ⟨g, 0, none⟩ = false ∧ w.frozen? ⟨g, 1, none⟩ = false := ⟨(blk_cell h.out 0).trans rfl, (blk_cell h.out 1).trans rfl, blk_frozen h.out 0, blk_frozen h.out 1⟩
theorem bc8 {t : Nat} {a0 a1 a2 a3 a4 a5 a6 a7 : Value} (h : Aside0 (w.heap[g]? = some (.cells #[a0, a1, a2, a3, a4, a5, a6, a7] t (0, 0)))) : w.cell? ⟨g, 0, none⟩ = some a0 ∧ w.cell? ⟨g, 1, none⟩ = some a1 ∧ w.cell? ⟨g, 2, none⟩ = some a2 ∧ w.cell? ⟨g, 3, none⟩ = some a3 ∧ w.cell? ⟨g, 4, none⟩ = some a4 ∧ w.cell? ⟨g, 5, none⟩ = some a5 ∧ w.cell? ⟨g, 6, none⟩ = some a6 ∧ w.cell? ⟨g, 7, none⟩ = some a7 ∧ w.frozen? ⟨g, 0, none⟩ = false ∧ w.frozen? ⟨g, 1, none⟩ = false ∧ w.frozen? ⟨g, 2, none⟩ = false ∧ w.frozen? ⟨g, 3, none⟩ = false ∧ w.frozen? ⟨g, 4, none⟩ = false ∧ w.frozen? ⟨g, 5, none⟩ = false ∧ w.frozen? ⟨g, 6, none⟩ = false ∧ w.frozen? ⟨g, 7, none⟩ = false := ⟨(blk_cell h.out 0).trans rfl, (blk_cell h.out 1).trans rfl, (blk_cell h.out 2).trans rfl, (blk_cell h.out 3).trans rfl, (blk_cell h.out 4).trans rfl, (blk_cell h.out 5).trans rfl, (blk_cell h.out 6).trans rfl, (blk_cell h.out 7).trans rfl, blk_frozen h.out 0, blk_frozen h.out 1, blk_frozen h.out 2, blk_frozen h.out 3, blk_frozen h.out 4, blk_frozen h.out 5, blk_frozen h.out 6, blk_frozen h.out 7⟩
theorem bl8 {t : Nat} {a0 a1 a2 a3 a4 a5 a6 a7 : Value} (h : Aside0 (w.heap[g]? = some (.cells #[a0, a1, a2, a3, a4, a5, a6, a7] t (0, 0)))) : w.cell? ⟨g, 0, none⟩ = some a0 ∧ w.cell? ⟨g, 1, none⟩ = some a1 ∧ w.cell? ⟨g, 2, none⟩ = some a2 ∧ w.cell? ⟨g, 3, none⟩ = some a3 ∧ w.cell? ⟨g, 4, none⟩ = some a4 ∧ w.cell? ⟨g, 5, none⟩ = some a5 ∧ w.cell? ⟨g, 6, none⟩ = some a6 ∧ w.cell? ⟨g, 7, none⟩ = some a7 := ⟨(blk_cell h.out 0).trans rfl, (blk_cell h.out 1).trans rfl, (blk_cell h.out 2).trans rfl, (blk_cell h.out 3).trans rfl, (blk_cell h.out 4).trans rfl, (blk_cell h.out 5).trans rfl, (blk_cell h.out 6).trans rfl, (blk_cell h.out 7).trans rfl⟩
theorem bk8 {t : Nat} {a0 a1 a2 a3 a4 a5 a6 a7 : Value} (h : Aside0 (w.heap[g]? = some (.cells #[a0, a1, a2, a3, a4, a5, a6, a7] t (0, 0)))) {q : Prop} (hq : q) : w.cell? ⟨g, 0, none⟩ = some a0 ∧ w.cell? ⟨g, 1, none⟩ = some a1 ∧ w.cell? ⟨g, 2, none⟩ = some a2 ∧ w.cell? ⟨g, 3, none⟩ = some a3 ∧ w.cell? ⟨g, 4, none⟩ = some a4 ∧ w.cell? ⟨g, 5, none⟩ = some a5 ∧ w.cell? ⟨g, 6, none⟩ = some a6 ∧ w.cell? ⟨g, 7, none⟩ = some a7 ∧ q := ⟨(blk_cell h.out 0).trans rfl, (blk_cell h.out 1).trans rfl, (blk_cell h.out 2).trans rfl, (blk_cell h.out 3).trans rfl, (blk_cell h.out 4).trans rfl, (blk_cell h.out 5).trans rfl, (blk_cell h.out 6).trans rfl, (blk_cell h.out 7).trans rfl, hq⟩
theorem gwS {gb : Nat} (hg : gb = W.heap.size) (h : Aside0 (Below w.heap.size w W0)) (hw : Below w.heap.size w W0 → Below w.heap.size w W := by (intro h_; repeat (first | (with_reducible first | exact h_ | apply below_alloc | apply pw_below_drewN | apply below_drew1 | refine below_set ?_ (Aside0.out (by with_reducible assumption))) | exact h_))) : Aside0 (w.heap.size ≤ gb) := ⟨by rw [hg]; exact below_size (hw h.out)⟩
theorem nbL {gb : Nat} (hg : gb = W.heap.size) (h : Aside0 (W0.heap[g]? = some o)) (hw : W0.heap[g]? = some o → W.heap[g]? = some o := by (intro h_; (with_reducible repeat (first | refine blk_drewN ?_ _ | refine blk_drew ?_ | refine blk_alloc ?_ _)); exact h_)) : Aside0 (g ≠ gb) := ⟨by rw [hg]; exact Nat.ne_of_lt (blk_lt (hw h.out))⟩
theorem nbG {gb : Nat} (hg : gb = W.heap.size) (h : Aside0 (W0.heap[g]? = some o)) (hw : W0.heap[g]? = some o → W.heap[g]? = some o := by (intro h_; (with_reducible repeat (first | refine blk_drewN ?_ _ | refine blk_drew ?_ | refine blk_alloc ?_ _)); exact h_)) : Aside0 (gb ≠ g) := ⟨by rw [hg]; exact Nat.ne_of_gt (blk_lt (hw h.out))⟩
end
/-! Rows of numbers that are written over: what lies elsewhere stays. -/
section
variable {w : World} {e base base' g t : Nat} {ok ok' : Nat → Prop} {v v' : Value} {ys : List Int} {α : Type} {d : Kd α} {xs : List α} {cells : Array Value}
theorem inc_B (h : w.heap[g]? = some (.cells cells t (0, 0))) (h' : Kd.R (Kd.int .u32) 33 w base' ok' v' ys) (ht : t ≠ 33) : some g ≠ v'.ownBlock :=
  fun ho => by
    obtain ⟨cells', hc⟩ := Kd.R_typed h' g ho.symm
    rw [h] at hc
    have := Option.some.inj hc
    injection this with h1 h2
    exact ht h2
end
theorem inc_wrap (i n : Int) (h0 : 0 ≤ i) (h : i < n) (hn : n ≤ 9223372036854775807) : wrap64 (i + 1) = i + 1 := by unfold wrap64; omega
theorem inc_len (y : List Int) (i x : Int) : (y.set i.toNat x).length = y.length := List.length_set
end Go.Proofs.Ythekledcoeeheaa.P
namespace Go.Proofs.Ythekledcoeeheaa.P
open Go.RowKit Go.Proofs.YthekledcoeeheaaW.PrintWords Go.Proofs.YthekledcoeeheaaW.PrintLast Go.Proofs.YthekledcoeeheaaW.PrintMore
attribute [local go_sem] max2_int min2_int max_two min_two max_three min_three max_four min_four
theorem eqA35 (d : Nat) (w : World) (x0 y0 : Int) (x1 y1 : Int) :
    (Op.equalIn (d + 2) 35 (.agg #[.int .u32 x0, .int .i64 x1]) (.agg #[.int .u32 y0, .int .i64 y1])).run Try.prog w = .ok (x0 == y0 && (x1 == y1)) w := by
  refine eqA_of Try.underlying35 (by kernel_rfl) ?_
  refine eqf_cons (by rfl) (by go_simp; rfl) (by go_simp; rfl) (by go_simp) ?_
  exact eqf_last (by rfl) (by go_simp; rfl) (by go_simp; rfl) (by go_simp)
/-! ### route_Mask: function 32 -/
def q1z.f (a0_0 : Int) (a0_1 : Int) : Option (Int × Int) := some ((IntKind.u64.wrap (((IntKind.u64.wrap (a0_0)) / 2 ^ (32 - (mx 0 (mn a0_1 32))).toNat) * 2 ^ (32 - (mx 0 (mn a0_1 32))).toNat)) % 4294967296, mx 0 (mn a0_1 32))
set_option maxHeartbeats 8000000 in
set_option maxRecDepth 100000 in
theorem q1z.calls (a0_0 : Int) (a0_1 : Int) (r1 : Int) (r2 : Int) (w : World) (h : q1z.f a0_0 a0_1 = some (r1, r2)) :
  Calls Try.prog 32 #[.agg #[.int .u32 a0_0, .int .i64 a0_1]] w fun e w' => e = .returned (.agg #[.int .u32 r1, .int .i64 r2]) ∧ Below w.heap.size w w' := by
 have hu35 := Try.underlying35
 have HB := Aside0.mk (Below.refl w.heap.size w)
 have H : (some ((IntKind.u64.wrap (((IntKind.u64.wrap (a0_0)) / 2 ^ (32 - (mx 0 (mn a0_1 32))).toNat) * 2 ^ (32 - (mx 0 (mn a0_1 32))).toNat)) % 4294967296, mx 0 (mn a0_1 32))) = some (r1, r2) := h
 clear h
 obtain ⟨ji2, hji2⟩ : ∃ j_ : Int, (mn a0_1 32) = j_ := ⟨_, rfl⟩
 replace H : (some ((IntKind.u64.wrap (((IntKind.u64.wrap (a0_0)) / 2 ^ (32 - (mx 0 (ji2))).toNat) * 2 ^ (32 - (mx 0 (ji2))).toNat)) % 4294967296, mx 0 (ji2))) = some (r1, r2) := by first | (rw [hji2] at H; exact H) | (simp only [hji2] at H ⊢; exact H)
 (try (have hji2h : ji2 ≤ 32 := by (rw [← hji2]; unfold mn; (repeat' split) <;> omega)))
 (try (have hji2g : ji2 ≤ 64 := by omega))
 have hji2_ : (if 32 < a0_1 then 32 else a0_1) = ji2 := hji2
 obtain ⟨ji3, hji3⟩ : ∃ j_ : Int, (mx 0 (ji2)) = j_ := ⟨_, rfl⟩
 replace H : (some ((IntKind.u64.wrap (((IntKind.u64.wrap (a0_0)) / 2 ^ (32 - (ji3)).toNat) * 2 ^ (32 - (ji3)).toNat)) % 4294967296, ji3)) = some (r1, r2) := by first | (rw [hji3] at H; exact H) | (simp only [hji3] at H ⊢; exact H)
 have hji3_ : (if 0 < (ji2) then (ji2) else 0) = ji3 := hji3
 simp only [Option.some.injEq, Prod.mk.injEq] at H
 obtain ⟨rfl, rfl⟩ := H
 go_enter Try.func32, Try.ntmps32
 go_wp2_with (first | ((with_reducible refine gate_dst (N := 1) rfl ?_); refine box_event ?hg (N := 1) ?hd (cs := #[.int .u32 a0_0, .int .i64 a0_1]) (t := 35) ?hr ?_; (case hd => rfl); (case hg => rfl); (case hr => first | (go_simp; done) | (go_simp; rfl)); intro gb1 hg w4 hbox hb; have BK1 := Aside0.mk (hbox); have GW1 := gwS hg HB; have GE1 := gwS hg HB; replace HB := hbS HB hb; clear hb hbox hg) | ((with_reducible refine gate_dst (N := 2) rfl ?_); refine box_event ?hg (N := 2) ?hd (cs := #[.int .u32 0, .int .i64 0]) (t := 35) ?hr ?_; (case hd => rfl); (case hg => rfl); (case hr => first | (go_simp; done) | (go_simp; rfl)); intro gb2 hg w5 hbox hb; have BK2 := Aside0.mk (hbox); have GW2 := gwS hg HB; have GE2 := gwS hg HB; have NB1_2 := nbL hg BK1; have NB2_1 := nbG hg BK1; replace BK1 := bkB BK1 hb; replace HB := hbS HB hb; clear hb hbox hg; have hnb6 := NB1_2.out; have hnc6 := NB2_1.out; obtain ⟨hcz7_0, hcz7_1, hfz7_0, hfz7_1⟩ := bc2 BK1; obtain ⟨hcz8_0, hcz8_1, hfz8_0, hfz8_1⟩ := bc2 BK2))
 refine bodyPost_ret (results_cell_row rfl _ _ gb2 35 #[.int .u32 ((IntKind.u64.wrap (((IntKind.u64.wrap (a0_0)) / 2 ^ (32 - (ji3)).toNat) * 2 ^ (32 - (ji3)).toNat)) % 4294967296), .int .i64 ji3] (0, 0) _ rfl (bp2 BK2) Try.underlying35 rfl (by kernel_rfl)) rfl ?_
 exact ⟨by first | rfl | (simp [errW_none, errW_some] <;> rfl) | (simp only [← hji2, ← hji3]; first | rfl | (simp [errW_none, errW_some] <;> rfl)) | (simp [*, errW_none, errW_some] <;> rfl), hbW HB⟩

/-! ### slices_Index_uint32_uint32: function 75 -/
def q2z.l0 : Nat → List Int → Int → Int → Int → Option (Int)
 | 0, _, _, _, _ => none
 | k + 1, x0, x1, x7, x8 => if x8 < x7 then (if 0 ≤ x8 then (if x8 < (x0.length : Int) then (if x1 = (rd x0 x8) then (some x8) else (q2z.l0 k x0 x1 x7 (wrap64 (x8 + 1)))) else (none)) else (none)) else (some (-1))
def q2z.f (k : Nat) (l0 : List Int) (a1 : Int) : Option (Int) := q2z.l0 k l0 a1 (l0.length : Int) 0
theorem q2z.mono_l : ∀ k, (∀ y0 y1 y2 y3, LeO (q2z.l0 k y0 y1 y2 y3) (q2z.l0 (k + 1) y0 y1 y2 y3))
 | 0 => fun _ _ _ _ r h => by simp [q2z.l0] at h
 | k + 1 => by
  have ih0 := q2z.mono_l k
  ·
   intro y0 y1 y2 y3
   unfold q2z.l0
   repeat' first
   | (with_reducible exact ih0 _ _ _ _)
   | (with_reducible exact LeO.refl _)
   | (with_reducible exact LeO.none _)
   | (with_reducible refine LeO.ite ?_ ?_)
   | (with_reducible refine LeO.bind ?_ (fun _ => ?_))
   | exact ih0 _ _ _ _
   | exact LeO.none _
   | refine LeO.ite ?_ ?_
   | refine LeO.bind ?_ (fun _ => ?_)
theorem q2z.mono : ∀ a0 a1 k, LeO (q2z.f k a0 a1) (q2z.f (k + 1) a0 a1) := by
 intro a0 a1 k
 have ih0 := q2z.mono_l k
 unfold q2z.f
 repeat' first
   | (with_reducible exact ih0 _ _ _ _)
   | (with_reducible exact LeO.refl _)
   | (with_reducible exact LeO.none _)
   | (with_reducible refine LeO.ite ?_ ?_)
   | (with_reducible refine LeO.bind ?_ (fun _ => ?_))
   | exact ih0 _ _ _ _
   | exact LeO.none _
   | refine LeO.ite ?_ ?_
   | refine LeO.bind ?_ (fun _ => ?_)
set_option maxHeartbeats 8000000 in
set_option maxRecDepth 100000 in
theorem q2z.calls (k : Nat) (A0 : Option Addr) (c0 : Nat) (l0 : List Int) (a1 : Int) (r : Int) (w : World) (hr0 : Kd.C (Kd.int .u32) w A0 l0.length l0) (hc0 : l0.length ≤ c0) (h : q2z.f k l0 a1 = some r) :
  Calls Try.prog 75 #[.slice A0 l0.length c0, .int .u32 a1] w fun e w' => e = .returned (.int .i64 r) ∧ Drawn0 w w' := by
 have HR0 := Aside0.mk hr0
 have HC0 := Aside0.mk hc0
 clear hr0 hc0
 have H : (q2z.l0 k l0 a1 (l0.length : Int) 0) = some r := h
 clear h
 have H' := Aside0.mk H
 clear H
 go_enter Try.func75, Try.ntmps75
 go_wp2
 go_loopg [8] k (fun kq v8 w' => ∃ (x8_1 : Int), v8 = .int .i64 x8_1 ∧ Aside0 (q2z.l0 kq l0 a1 (l0.length : Int) x8_1 = some r) ∧ Aside0 (kq ≤ k) ∧ Drawn0 w w')
 case atStart => exact ⟨(0), (by first | rfl | (simp; done) | (simp [*]; done)), H', ⟨Nat.le_refl _⟩, by repeat (first | exact Drawn0.refl _ | apply Drawn0.step)⟩
 case round =>
  clear H'
  try clear p2
  obtain ⟨x8_1, rfl, HA, HK1, ⟨m1, rfl⟩⟩ := hrel
  cases gk with
  | zero => exact absurd HA.out (by simp [q2z.l0])
  | succ k1 =>
   have H := HA.out
   clear HA
   simp only [q2z.l0] at H
   by_cases c3 : x8_1 < (l0.length : Int)
   ·
    rw [if_pos c3] at H
    have c3b0 : decide (x8_1 < (l0.length : Int)) = true := decide_eq_true c3
    clear c3
    by_cases c4 : 0 ≤ x8_1
    ·
     rw [if_pos c4] at H
     have c4b0 : decide (0 ≤ x8_1) = true := decide_eq_true c4
     clear c4
     by_cases c5 : x8_1 < (l0.length : Int)
     ·
      rw [if_pos c5] at H
      have c5b0 : decide (x8_1 < (l0.length : Int)) = true := decide_eq_true c5
      clear c5
      by_cases c6 : a1 = (rd l0 x8_1)
      ·
       rw [if_pos c6] at H
       have c6b0 : (a1 == (rd l0 x8_1)) = true := beq_iff_eq.mpr c6
       have c6b1 : (a1 != (rd l0 x8_1)) = false := bne_eq_false_iff_eq.mpr c6
       clear c6
       obtain rfl := Option.some.inj H
       have p1 : 0 ≤ (x8_1 : Int) := of_decide_eq_true (by first | (with_reducible assumption) | assumption)
       have q1 : x8_1 < (l0.length : Int) := of_decide_eq_true (by first | (with_reducible assumption) | assumption)
       obtain ⟨ad1, e1, hx1_0⟩ := Kd.at_int HR0.out x8_1 p1 q1
       cases e1
       replace p1 := eq_true p1
       replace q1 := eq_true q1
       go_wp2
       go_ret
       exact ⟨by first | rfl | (simp; done) | (simp [*]; done), by repeat (first | exact Drawn0.refl _ | apply Drawn0.step)⟩
      ·
       rw [if_neg c6] at H
       have c6b0 : (a1 == (rd l0 x8_1)) = false := beq_eq_false_iff_ne.mpr c6
       have c6b1 : (a1 != (rd l0 x8_1)) = true := bne_iff_ne.mpr c6
       have H' := Aside0.mk H
       clear H
       have p1 : 0 ≤ (x8_1 : Int) := of_decide_eq_true (by first | (with_reducible assumption) | assumption)
       have q1 : x8_1 < (l0.length : Int) := of_decide_eq_true (by first | (with_reducible assumption) | assumption)
       obtain ⟨ad1, e1, hx1_0⟩ := Kd.at_int HR0.out x8_1 p1 q1
       cases e1
       replace p1 := eq_true p1
       replace q1 := eq_true q1
       go_wp2
       go_roundg k1
       case measure => have := HK1.out; omega
       case rel => exact ⟨(wrap64 (x8_1 + 1)), (by first | rfl | (simp; done) | (simp [*]; done)), H', ⟨by have := HK1.out; omega⟩, by repeat (first | exact Drawn0.refl _ | apply Drawn0.step)⟩
     ·
      rw [if_neg c5] at H
      exact absurd H (by simp)
    ·
     rw [if_neg c4] at H
     exact absurd H (by simp)
   ·
    rw [if_neg c3] at H
    have c3b0 : decide (x8_1 < (l0.length : Int)) = false := decide_eq_false c3
    clear c3
    obtain rfl := Option.some.inj H
    go_wp2
    go_ret
    exact ⟨by first | rfl | (simp; done) | (simp [*]; done), by repeat (first | exact Drawn0.refl _ | apply Drawn0.step)⟩

/-! ### slices_Contains_uint32_uint32: function 56 -/
def q3z.f (k : Nat) (l0 : List Int) (a1 : Int) : Option (Bool) := (q2z.f k l0 a1).bind fun t1 => (some (decide (t1 ≥ 0)))
theorem q3z.mono : ∀ a0 a1 k, LeO (q3z.f k a0 a1) (q3z.f (k + 1) a0 a1) := by
 intro a0 a1 k
 unfold q3z.f
 repeat' first
   | (with_reducible exact q2z.mono _ _ _)
   | (with_reducible exact LeO.refl _)
   | (with_reducible exact LeO.none _)
   | (with_reducible refine LeO.ite ?_ ?_)
   | (with_reducible refine LeO.bind ?_ (fun _ => ?_))
   | exact q2z.mono _ _ _
   | exact LeO.none _
   | refine LeO.ite ?_ ?_
   | refine LeO.bind ?_ (fun _ => ?_)
set_option maxHeartbeats 8000000 in
set_option maxRecDepth 100000 in
theorem q3z.calls (k : Nat) (A0 : Option Addr) (c0 : Nat) (l0 : List Int) (a1 : Int) (r : Bool) (w : World) (hr0 : Kd.C (Kd.int .u32) w A0 l0.length l0) (hc0 : l0.length ≤ c0) (h : q3z.f k l0 a1 = some r) :
  Calls Try.prog 56 #[.slice A0 l0.length c0, .int .u32 a1] w fun e w' => e = .returned (.bool r) ∧ Drawn0 w w' := by
 have HR0 := Aside0.mk hr0
 have HC0 := Aside0.mk hc0
 clear hr0 hc0
 have H : ((q2z.f k l0 a1).bind fun t1 => (some (decide (t1 ≥ 0)))) = some r := h
 clear h
 replace H := Option.bind_eq_some_iff.mp H
 obtain ⟨t1, A30, H⟩ := H
 replace H : (some (decide (t1 ≥ 0))) = some r := H
 have A3 := Aside0.mk A30
 clear A30
 obtain rfl := Option.some.inj H
 go_enter Try.func56, Try.ntmps56
 go_wp2_with (first | ((with_reducible refine gate_callee (f := 75) rfl ?_); refine goesL_ (some 7) rfl rfl Try.func75 (by kernel_rfl) rfl #[.slice A0 l0.length c0, .int .u32 a1] rfl (by (try simp only [List.map_toArray, List.map_cons, List.map_nil]); first | done | rfl | (simp only [List.length_drop, List.length_take]; rfl)) ?_; (with_reducible refine (q2z.calls k _ _ l0 a1 t1 _ ?side1 ?side2 A3.out).mono ?_); (case side1 => repeat (first | exact HR0.out | (with_reducible refine Kd.C_alloc ?_ _) | (with_reducible refine Kd.C_drewN ?_ _) | (with_reducible refine Kd.C_drew ?_))); (case side2 => exact HC0.out); rintro e w' ⟨rfl, ⟨nd, rfl⟩⟩; refine ⟨_, rfl, ?_⟩))
 go_ret
 exact ⟨by first | rfl | (simp; done) | (simp [*]; done), by repeat (first | exact Drawn0.refl _ | apply Drawn0.step)⟩

attribute [local go_sem high] eqA35
/-! ### route_Valid: function 30 -/
def q4z.l0 : Nat → Int → Int → Int → List Int → List Int → Int → Int → Int → Int → Option (Bool)
 | 0, _, _, _, _, _, _, _, _, _ => none
 | k + 1, x3, x2000, x2001, x2002, x2003, x2004, x2005, x2006, x2007 => if x3 < (x2003.length : Int) then (if 0 ≤ x3 then (if 0 ≤ (wrap64 (x3 - 1)) then (if (wrap64 (x3 - 1)) < (x2003.length : Int) then (if (rd x2003 x3) ≤ (rd x2003 (wrap64 (x3 - 1))) then (some false) else (q4z.l0 k (wrap64 (x3 + 1)) x2000 x2001 x2002 x2003 x2004 x2005 x2006 x2007)) else (none)) else (none)) else (none)) else ((q1z.f x2000 x2001).bind fun bt4 => (if (!(x2000 == bt4.1) || (!(x2001 == bt4.2))) = true then (some false) else (if (x2002.length : Int) > 255 then (some false) else (if (x2003.length : Int) > 255 then (some false) else ((q3z.f k x2002 0).bind fun t6 => (if t6 = true then (some false) else (if x2006 ≥ 0 then (some (decide (x2006 ≤ 2))) else (some false))))))))
def q4z.f (k : Nat) (a0_0 : Int) (a0_1 : Int) (l0_2 : List Int) (l0_3 : List Int) (a0_4 : Int) (a0_5 : Int) (a0_6 : Int) (a0_7 : Int) : Option (Bool) := q4z.l0 k 1 a0_0 a0_1 l0_2 l0_3 a0_4 a0_5 a0_6 a0_7
theorem q4z.mono_l : ∀ k, (∀ y0 y1 y2 y3 y4 y5 y6 y7 y8, LeO (q4z.l0 k y0 y1 y2 y3 y4 y5 y6 y7 y8) (q4z.l0 (k + 1) y0 y1 y2 y3 y4 y5 y6 y7 y8))
 | 0 => fun _ _ _ _ _ _ _ _ _ r h => by simp [q4z.l0] at h
 | k + 1 => by
  have ih0 := q4z.mono_l k
  ·
   intro y0 y1 y2 y3 y4 y5 y6 y7 y8
   unfold q4z.l0
   repeat' first
   | (with_reducible exact ih0 _ _ _ _ _ _ _ _ _)
   | (with_reducible exact q3z.mono _ _ _)
   | (with_reducible exact LeO.refl _)
   | (with_reducible exact LeO.none _)
   | (with_reducible refine LeO.ite ?_ ?_)
   | (with_reducible refine LeO.bind ?_ (fun _ => ?_))
   | exact ih0 _ _ _ _ _ _ _ _ _
   | exact q3z.mono _ _ _
   | exact LeO.none _
   | refine LeO.ite ?_ ?_
   | refine LeO.bind ?_ (fun _ => ?_)
theorem q4z.mono : ∀ a0 a1 a2 a3 a4 a5 a6 a7 k, LeO (q4z.f k a0 a1 a2 a3 a4 a5 a6 a7) (q4z.f (k + 1) a0 a1 a2 a3 a4 a5 a6 a7) := by
 intro a0 a1 a2 a3 a4 a5 a6 a7 k
 have ih0 := q4z.mono_l k
 unfold q4z.f
 repeat' first
   | (with_reducible exact ih0 _ _ _ _ _ _ _ _ _)
   | (with_reducible exact q3z.mono _ _ _)
   | (with_reducible exact LeO.refl _)
   | (with_reducible exact LeO.none _)
   | (with_reducible refine LeO.ite ?_ ?_)
   | (with_reducible refine LeO.bind ?_ (fun _ => ?_))
   | exact ih0 _ _ _ _ _ _ _ _ _
   | exact q3z.mono _ _ _
   | exact LeO.none _
   | refine LeO.ite ?_ ?_
   | refine LeO.bind ?_ (fun _ => ?_)
def q4z.T4 : Bool × List (List Nat × List Nat) := (true, [([], []), ([0], [0]), ([], []), ([1, 2], [1, 2]), ([3], [3]), ([], []), ([5], [5]), ([], []), ([7], [7]), ([6, 8], [6, 8]), ([9], [9]), ([4, 10], [4, 10])])
def q4z.B4 : List Nat := [0, 1, 0, 7, 15, 0, 32, 0, 128, 480, 992, 2047]
theorem q4z.tab4 : rtab .any (opsOf Try.f30 4) = q4z.T4 := by kernel_rfl
theorem q4z.bits4 : waitsOk q4z.T4.2 q4z.B4 = true := by kernel_rfl
set_option maxHeartbeats 8000000 in
set_option maxRecDepth 100000 in
theorem q4z.calls (k : Nat) (a0_0 : Int) (a0_1 : Int) (A0_2 : Option Addr) (c0_2 : Nat) (l0_2 : List Int) (A0_3 : Option Addr) (c0_3 : Nat) (l0_3 : List Int) (a0_4 : Int) (a0_5 : Int) (a0_6 : Int) (a0_7 : Int) (r : Bool) (w : World) (hr0_2 : Kd.C (Kd.int .u32) w A0_2 l0_2.length l0_2) (hc0_2 : l0_2.length ≤ c0_2) (hr0_3 : Kd.C (Kd.int .u32) w A0_3 l0_3.length l0_3) (hc0_3 : l0_3.length ≤ c0_3) (h : q4z.f k a0_0 a0_1 l0_2 l0_3 a0_4 a0_5 a0_6 a0_7 = some r) :
  Calls Try.prog 30 #[.agg #[.int .u32 a0_0, .int .i64 a0_1, .slice A0_2 l0_2.length c0_2, .slice A0_3 l0_3.length c0_3, .int .u32 a0_4, .int .u32 a0_5, .int .i64 a0_6, .int .u32 a0_7]] w fun e w' => e = .returned (.bool r) ∧ Below w.heap.size w w' := by
 have hu38 := Try.underlying38
 have hu35 := Try.underlying35
 have HR0_2 := Aside0.mk hr0_2
 have HC0_2 := Aside0.mk hc0_2
 clear hr0_2 hc0_2
 have HR0_3 := Aside0.mk hr0_3
 have HC0_3 := Aside0.mk hc0_3
 clear hr0_3 hc0_3
 have HB := Aside0.mk (Below.refl w.heap.size w)
 have H : (q4z.l0 k 1 a0_0 a0_1 l0_2 l0_3 a0_4 a0_5 a0_6 a0_7) = some r := h
 clear h
 have H' := Aside0.mk H
 clear H
 go_enter Try.func30, Try.ntmps30
 go_wp2_with (first | ((with_reducible refine gate_dst (N := 1) rfl ?_); refine box_event ?hg (N := 1) ?hd (cs := #[.int .u32 a0_0, .int .i64 a0_1, .slice A0_2 l0_2.length c0_2, .slice A0_3 l0_3.length c0_3, .int .u32 a0_4, .int .u32 a0_5, .int .i64 a0_6, .int .u32 a0_7]) (t := 38) ?hr ?_; (case hd => rfl); (case hg => rfl); (case hr => first | (go_simp; done) | (go_simp; rfl)); intro gb1 hg w2 hbox hb; have BK1 := Aside0.mk (hbox); have GW1 := gwS hg HB; have GE1 := gwS hg HB; replace HB := hbS HB hb; clear hb hbox hg))
 go_loopg [3] k (fun kq v3 w' => ∃ (x3_1 : Int), v3 = .int .i64 x3_1 ∧ Aside0 (q4z.l0 kq x3_1 a0_0 a0_1 l0_2 l0_3 a0_4 a0_5 a0_6 a0_7 = some r) ∧ Aside0 (kq ≤ k) ∧ Aside0 (w'.heap[gb1]? = some (.cells #[.int .u32 a0_0, .int .i64 a0_1, (.slice A0_2 l0_2.length c0_2), (.slice A0_3 l0_3.length c0_3), .int .u32 a0_4, .int .u32 a0_5, .int .i64 a0_6, .int .u32 a0_7] 38 (0, 0))) ∧ Aside0 (Below w.heap.size w w'))
 case atStart => exact ⟨(1), (by first | rfl | (simp; done) | (simp [*]; done)), H', ⟨Nat.le_refl _⟩, ⟨by (with_reducible repeat (first | refine blk_drewN ?_ _ | refine blk_drew ?_ | refine blk_alloc ?_ _)); exact BK1.out⟩, ⟨hbW HB⟩⟩
 case round =>
  clear H'
  try clear p2
  obtain ⟨x3_1, rfl, HA, HK1, BK1, HB⟩ := hrel
  cases gk with
  | zero => exact absurd HA.out (by simp [q4z.l0])
  | succ k1 =>
   have H := HA.out
   clear HA
   simp only [q4z.l0] at H
   by_cases c3 : x3_1 < (l0_3.length : Int)
   ·
    rw [if_pos c3] at H
    have c3b0 : decide (x3_1 < (l0_3.length : Int)) = true := decide_eq_true c3
    clear c3
    by_cases c4 : 0 ≤ x3_1
    ·
     rw [if_pos c4] at H
     have c4b0 : decide (0 ≤ x3_1) = true := decide_eq_true c4
     clear c4
     obtain ⟨ji5, hji5⟩ : ∃ j_ : Int, (wrap64 (x3_1 - 1)) = j_ := ⟨_, rfl⟩
     replace H : (if 0 ≤ (ji5) then (if (ji5) < (l0_3.length : Int) then (if (rd l0_3 x3_1) ≤ (rd l0_3 (ji5)) then (some false) else (q4z.l0 k1 (wrap64 (x3_1 + 1)) a0_0 a0_1 l0_2 l0_3 a0_4 a0_5 a0_6 a0_7)) else (none)) else (none)) = some r := by first | (rw [hji5] at H; exact H) | (simp only [hji5] at H ⊢; exact H)
     have hji5w : (IntKind.i64.wrap (x3_1 - 1)) = ji5 := (i64_w _).trans hji5
     by_cases c6 : 0 ≤ (ji5)
     ·
      rw [if_pos c6] at H
      have c6b0 : decide (0 ≤ (ji5)) = true := decide_eq_true c6
      clear c6
      by_cases c7 : (ji5) < (l0_3.length : Int)
      ·
       rw [if_pos c7] at H
       have c7b0 : decide ((ji5) < (l0_3.length : Int)) = true := decide_eq_true c7
       clear c7
       by_cases c8 : (rd l0_3 x3_1) ≤ (rd l0_3 (ji5))
       ·
        rw [if_pos c8] at H
        have c8b0 : decide ((rd l0_3 x3_1) ≤ (rd l0_3 (ji5))) = true := decide_eq_true c8
        clear c8
        obtain rfl := Option.some.inj H
        obtain ⟨hcz9_0, hcz9_1, hcz9_2, hcz9_3, hcz9_4, hcz9_5, hcz9_6, hcz9_7, hfz9_0, hfz9_1, hfz9_2, hfz9_3, hfz9_4, hfz9_5, hfz9_6, hfz9_7⟩ := bc8 BK1
        try go_wp2
        replace BK1 := Aside0.mk (blk_drew BK1.out)
        replace HB := Aside0.mk (below_drew1 HB.out)
        have p2 : 0 ≤ (x3_1 : Int) := of_decide_eq_true (by first | (with_reducible assumption) | assumption)
        have q2 : x3_1 < (l0_3.length : Int) := of_decide_eq_true (by first | (with_reducible assumption) | assumption)
        obtain ⟨ad2, e2, hx2_0⟩ := Kd.at_int HR0_3.out x3_1 p2 q2
        have hw2_0 := hx2_0
        cases e2
        replace hx2_0 := (HB.out.cell (World.block_lt_of_cell? w _ hx2_0)).trans hx2_0
        replace p2 := eq_true p2
        replace q2 := eq_true q2
        have p3 : 0 ≤ ((ji5) : Int) := of_decide_eq_true (by first | (with_reducible assumption) | assumption)
        have q3 : (ji5) < (l0_3.length : Int) := of_decide_eq_true (by first | (with_reducible assumption) | assumption)
        obtain ⟨ad3, e3, hx3_0⟩ := Kd.at_int HR0_3.out (ji5) p3 q3
        have hw3_0 := hx3_0
        obtain rfl : ad2 = ad3 := (by injection e3)
        replace hx3_0 := (HB.out.cell (World.block_lt_of_cell? w _ hx3_0)).trans hx3_0
        replace p3 := eq_true p3
        replace q3 := eq_true q3
        refine start_ (n := 12) (S := fun w' => w'.cell? ⟨gb1, 0, none⟩ = some (.int .u32 a0_0) ∧ w'.cell? ⟨gb1, 1, none⟩ = some (.int .i64 a0_1) ∧ w'.cell? ⟨gb1, 2, none⟩ = some (.slice A0_2 l0_2.length c0_2) ∧ w'.cell? ⟨gb1, 3, none⟩ = some (.slice (some ad2) l0_3.length c0_3) ∧ w'.cell? ⟨gb1, 4, none⟩ = some (.int .u32 a0_4) ∧ w'.cell? ⟨gb1, 5, none⟩ = some (.int .u32 a0_5) ∧ w'.cell? ⟨gb1, 6, none⟩ = some (.int .i64 a0_6) ∧ w'.cell? ⟨gb1, 7, none⟩ = some (.int .u32 a0_7) ∧ w'.cell? (ad2.add (x3_1).toNat) = some (.int .u32 (rd l0_3 x3_1)) ∧ w'.cell? (ad2.add ((ji5)).toNat) = some (.int .u32 (rd l0_3 (ji5)))) (ds := []) #[false, false, false, false, false, false, false, false, false, false, false, false] (by kernel_rfl) rfl rfl (bk8 BK1 (⟨((HB.out.cell (World.block_lt_of_cell? w _ hw2_0)).trans hw2_0), ((HB.out.cell (World.block_lt_of_cell? w _ hw3_0)).trans hw3_0)⟩)) (fun hHeld => ?_); refine with_tabW q4z.tab4 q4z.bits4 (fun HT_ HW_ => ?_)
        generalize wr.drew = w10 at BK1 HB hx2_0 hx3_0 hHeld ⊢
        refine pure_ (i := 0) (N := some 11) (v := ?_) (a' := ?_) #[true, false, false, false, false, false, false, false, false, false, false, false] rfl rfl (any_of HT_.out (by kernel_rfl)) (fun _ _ _ h => h) (Or.inl ⟨by rfl, ?_⟩) ?_ ?_
        rotate_left
        ·
         intro w'
         go_simp
         with_reducible rfl
        rotate_left
        ·
         simp only [Act.put, List.setIfInBounds_toArray, List.set_cons_zero, List.set_cons_succ, i64_w, i32_w, IntKind.wrap_u32]
         rfl
        refine pure_ (i := 2) (N := some 13) (v := ?_) (a' := ?_) #[true, false, true, false, false, false, false, false, false, false, false, false] rfl rfl (any_of HT_.out (by kernel_rfl)) (fun _ _ _ h => h) (Or.inl ⟨by rfl, ?_⟩) ?_ ?_
        rotate_left
        ·
         intro w'
         go_simp
         with_reducible rfl
        rotate_left
        ·
         simp only [Act.put, List.setIfInBounds_toArray, List.set_cons_zero, List.set_cons_succ, i64_w, i32_w, IntKind.wrap_u32]
         rfl
        refine pure_ (i := 5) (N := some 16) (v := ?_) (a' := ?_) #[true, false, true, false, false, true, false, false, false, false, false, false] rfl rfl (any_of HT_.out (by kernel_rfl)) (fun _ _ _ h => h) (Or.inl ⟨by rfl, ?_⟩) ?_ ?_
        rotate_left
        ·
         intro w'
         go_simp
         with_reducible rfl
        rotate_left
        ·
         simp only [Act.put, List.setIfInBounds_toArray, List.set_cons_zero, List.set_cons_succ, i64_w, i32_w, IntKind.wrap_u32]
         rfl
        refine pure_ (i := 7) (N := some 18) (v := ?_) (a' := ?_) #[true, false, true, false, false, true, false, true, false, false, false, false] rfl rfl (any_of HT_.out (by kernel_rfl)) (fun _ _ _ h => h) (Or.inl ⟨by rfl, ?_⟩) ?_ ?_
        rotate_left
        ·
         intro w'
         go_simp
         with_reducible rfl
        rotate_left
        ·
         simp only [Act.put, List.setIfInBounds_toArray, List.set_cons_zero, List.set_cons_succ, i64_w, i32_w, IntKind.wrap_u32]
         rfl
        refine pure_ (i := 8) (N := some 19) (v := ?_) (a' := ?_) #[true, false, true, false, false, true, false, true, true, false, false, false] rfl rfl (any_of HT_.out (by kernel_rfl)) (fun _ _ _ h => h) (Or.inl ⟨by rfl, ?_⟩) ?_ ?_
        rotate_left
        ·
         intro w'
         go_simp
         with_reducible rfl
        rotate_left
        ·
         simp only [Act.put, List.setIfInBounds_toArray, List.set_cons_zero, List.set_cons_succ, i64_w, i32_w, IntKind.wrap_u32]
         rfl
        refine take_ (i := 1) (N := some 12) (v := ?_) (a' := ?_) #[true, true, true, false, false, true, false, true, true, false, false, false] rfl rfl (take_ofW HT_.out HW_.out (by kernel_rfl)) (fun _ _ _ h => h) (Or.inl ⟨by rfl, ?_⟩) hHeld ?_ ?_
        rotate_left
        ·
         rintro w' ⟨s0, s1, s2, s3, s4, s5, s6, s7, s8, s9⟩
         go_simp
         with_reducible rfl
        rotate_left
        ·
         simp only [Act.put, List.setIfInBounds_toArray, List.set_cons_zero, List.set_cons_succ, i64_w, i32_w, IntKind.wrap_u32]
         rfl
        refine pure_ (i := 3) (N := some 14) (v := ?_) (a' := ?_) #[true, true, true, true, false, true, false, true, true, false, false, false] rfl rfl (any_of HT_.out (by kernel_rfl)) (fun _ _ _ h => h) (Or.inl ⟨by rfl, ?_⟩) ?_ ?_
        rotate_left
        ·
         intro w'
         go_simp
         with_reducible rfl
        rotate_left
        ·
         simp only [Act.put, List.setIfInBounds_toArray, List.set_cons_zero, List.set_cons_succ, i64_w, i32_w, IntKind.wrap_u32]
         rfl
        refine take_ (i := 4) (N := some 15) (v := ?_) (a' := ?_) #[true, true, true, true, true, true, false, true, true, false, false, false] rfl rfl (take_ofW HT_.out HW_.out (by kernel_rfl)) (fun _ _ _ h => h) (Or.inl ⟨by rfl, ?_⟩) hHeld ?_ ?_
        rotate_left
        ·
         rintro w' ⟨s0, s1, s2, s3, s4, s5, s6, s7, s8, s9⟩
         go_simp
         with_reducible rfl
        rotate_left
        ·
         simp only [Act.put, List.setIfInBounds_toArray, List.set_cons_zero, List.set_cons_succ, i64_w, i32_w, IntKind.wrap_u32]
         rfl
        refine take_ (i := 6) (N := some 17) (v := ?_) (a' := ?_) #[true, true, true, true, true, true, true, true, true, false, false, false] rfl rfl (take_ofW HT_.out HW_.out (by kernel_rfl)) (fun _ _ _ h => h) (Or.inl ⟨by rfl, ?_⟩) hHeld ?_ ?_
        rotate_left
        ·
         rintro w' ⟨s0, s1, s2, s3, s4, s5, s6, s7, s8, s9⟩
         go_simp
         with_reducible rfl
        rotate_left
        ·
         simp only [Act.put, List.setIfInBounds_toArray, List.set_cons_zero, List.set_cons_succ, i64_w, i32_w, IntKind.wrap_u32]
         rfl
        refine pure_ (i := 9) (N := some 20) (v := ?_) (a' := ?_) #[true, true, true, true, true, true, true, true, true, true, false, false] rfl rfl (any_of HT_.out (by kernel_rfl)) (fun _ _ _ h => h) (Or.inl ⟨by rfl, ?_⟩) ?_ ?_
        rotate_left
        ·
         intro w'
         go_simp
         with_reducible rfl
        rotate_left
        ·
         simp only [Act.put, List.setIfInBounds_toArray, List.set_cons_zero, List.set_cons_succ, i64_w, i32_w, IntKind.wrap_u32]
         rfl
        refine take_ (i := 10) (N := some 21) (v := ?_) (a' := ?_) #[true, true, true, true, true, true, true, true, true, true, true, false] rfl rfl (take_ofW HT_.out HW_.out (by kernel_rfl)) (fun _ _ _ h => h) (Or.inl ⟨by rfl, ?_⟩) hHeld ?_ ?_
        rotate_left
        ·
         rintro w' ⟨s0, s1, s2, s3, s4, s5, s6, s7, s8, s9⟩
         go_simp
         with_reducible rfl
        rotate_left
        ·
         simp only [Act.put, List.setIfInBounds_toArray, List.set_cons_zero, List.set_cons_succ, i64_w, i32_w, IntKind.wrap_u32]
         rfl
        refine pure_ (i := 11) (N := some 22) (v := ?_) (a' := ?_) #[true, true, true, true, true, true, true, true, true, true, true, true] rfl rfl (any_of HT_.out (by kernel_rfl)) (fun _ _ _ h => h) (Or.inl ⟨by rfl, ?_⟩) ?_ ?_
        rotate_left
        ·
         intro w'
         go_simp
         with_reducible rfl
        rotate_left
        ·
         simp only [Act.put, List.setIfInBounds_toArray, List.set_cons_zero, List.set_cons_succ, i64_w, i32_w, IntKind.wrap_u32]
         rfl
        refine done_ (done_of HT_.out (by kernel_rfl)) ?_
        try go_wp2
        go_ret
        exact ⟨by first | rfl | (simp [errW_none, errW_some] <;> rfl) | (simp only [← hji5]; first | rfl | (simp [errW_none, errW_some] <;> rfl)) | (simp [*, errW_none, errW_some] <;> rfl), hbW HB⟩
       ·
        rw [if_neg c8] at H
        have c8b0 : decide ((rd l0_3 x3_1) ≤ (rd l0_3 (ji5))) = false := decide_eq_false c8
        clear c8
        have H' := Aside0.mk H
        clear H
        obtain ⟨hcz11_0, hcz11_1, hcz11_2, hcz11_3, hcz11_4, hcz11_5, hcz11_6, hcz11_7, hfz11_0, hfz11_1, hfz11_2, hfz11_3, hfz11_4, hfz11_5, hfz11_6, hfz11_7⟩ := bc8 BK1
        try go_wp2
        replace BK1 := Aside0.mk (blk_drew BK1.out)
        replace HB := Aside0.mk (below_drew1 HB.out)
        have p2 : 0 ≤ (x3_1 : Int) := of_decide_eq_true (by first | (with_reducible assumption) | assumption)
        have q2 : x3_1 < (l0_3.length : Int) := of_decide_eq_true (by first | (with_reducible assumption) | assumption)
        obtain ⟨ad2, e2, hx2_0⟩ := Kd.at_int HR0_3.out x3_1 p2 q2
        have hw2_0 := hx2_0
        cases e2
        replace hx2_0 := (HB.out.cell (World.block_lt_of_cell? w _ hx2_0)).trans hx2_0
        replace p2 := eq_true p2
        replace q2 := eq_true q2
        have p3 : 0 ≤ ((ji5) : Int) := of_decide_eq_true (by first | (with_reducible assumption) | assumption)
        have q3 : (ji5) < (l0_3.length : Int) := of_decide_eq_true (by first | (with_reducible assumption) | assumption)
        obtain ⟨ad3, e3, hx3_0⟩ := Kd.at_int HR0_3.out (ji5) p3 q3
        have hw3_0 := hx3_0
        obtain rfl : ad2 = ad3 := (by injection e3)
        replace hx3_0 := (HB.out.cell (World.block_lt_of_cell? w _ hx3_0)).trans hx3_0
        replace p3 := eq_true p3
        replace q3 := eq_true q3
        refine start_ (n := 12) (S := fun w' => w'.cell? ⟨gb1, 0, none⟩ = some (.int .u32 a0_0) ∧ w'.cell? ⟨gb1, 1, none⟩ = some (.int .i64 a0_1) ∧ w'.cell? ⟨gb1, 2, none⟩ = some (.slice A0_2 l0_2.length c0_2) ∧ w'.cell? ⟨gb1, 3, none⟩ = some (.slice (some ad2) l0_3.length c0_3) ∧ w'.cell? ⟨gb1, 4, none⟩ = some (.int .u32 a0_4) ∧ w'.cell? ⟨gb1, 5, none⟩ = some (.int .u32 a0_5) ∧ w'.cell? ⟨gb1, 6, none⟩ = some (.int .i64 a0_6) ∧ w'.cell? ⟨gb1, 7, none⟩ = some (.int .u32 a0_7) ∧ w'.cell? (ad2.add (x3_1).toNat) = some (.int .u32 (rd l0_3 x3_1)) ∧ w'.cell? (ad2.add ((ji5)).toNat) = some (.int .u32 (rd l0_3 (ji5)))) (ds := []) #[false, false, false, false, false, false, false, false, false, false, false, false] (by kernel_rfl) rfl rfl (bk8 BK1 (⟨((HB.out.cell (World.block_lt_of_cell? w _ hw2_0)).trans hw2_0), ((HB.out.cell (World.block_lt_of_cell? w _ hw3_0)).trans hw3_0)⟩)) (fun hHeld => ?_); refine with_tabW q4z.tab4 q4z.bits4 (fun HT_ HW_ => ?_)
        generalize wr.drew = w12 at BK1 HB hx2_0 hx3_0 hHeld ⊢
        refine pure_ (i := 0) (N := some 11) (v := ?_) (a' := ?_) #[true, false, false, false, false, false, false, false, false, false, false, false] rfl rfl (any_of HT_.out (by kernel_rfl)) (fun _ _ _ h => h) (Or.inl ⟨by rfl, ?_⟩) ?_ ?_
        rotate_left
        ·
         intro w'
         go_simp
         with_reducible rfl
        rotate_left
        ·
         simp only [Act.put, List.setIfInBounds_toArray, List.set_cons_zero, List.set_cons_succ, i64_w, i32_w, IntKind.wrap_u32]
         rfl
        refine pure_ (i := 2) (N := some 13) (v := ?_) (a' := ?_) #[true, false, true, false, false, false, false, false, false, false, false, false] rfl rfl (any_of HT_.out (by kernel_rfl)) (fun _ _ _ h => h) (Or.inl ⟨by rfl, ?_⟩) ?_ ?_
        rotate_left
        ·
         intro w'
         go_simp
         with_reducible rfl
        rotate_left
        ·
         simp only [Act.put, List.setIfInBounds_toArray, List.set_cons_zero, List.set_cons_succ, i64_w, i32_w, IntKind.wrap_u32]
         rfl
        refine pure_ (i := 5) (N := some 16) (v := ?_) (a' := ?_) #[true, false, true, false, false, true, false, false, false, false, false, false] rfl rfl (any_of HT_.out (by kernel_rfl)) (fun _ _ _ h => h) (Or.inl ⟨by rfl, ?_⟩) ?_ ?_
        rotate_left
        ·
         intro w'
         go_simp
         with_reducible rfl
        rotate_left
        ·
         simp only [Act.put, List.setIfInBounds_toArray, List.set_cons_zero, List.set_cons_succ, i64_w, i32_w, IntKind.wrap_u32]
         rfl
        refine pure_ (i := 7) (N := some 18) (v := ?_) (a' := ?_) #[true, false, true, false, false, true, false, true, false, false, false, false] rfl rfl (any_of HT_.out (by kernel_rfl)) (fun _ _ _ h => h) (Or.inl ⟨by rfl, ?_⟩) ?_ ?_
        rotate_left
        ·
         intro w'
         go_simp
         with_reducible rfl
        rotate_left
        ·
         simp only [Act.put, List.setIfInBounds_toArray, List.set_cons_zero, List.set_cons_succ, i64_w, i32_w, IntKind.wrap_u32]
         rfl
        refine pure_ (i := 8) (N := some 19) (v := ?_) (a' := ?_) #[true, false, true, false, false, true, false, true, true, false, false, false] rfl rfl (any_of HT_.out (by kernel_rfl)) (fun _ _ _ h => h) (Or.inl ⟨by rfl, ?_⟩) ?_ ?_
        rotate_left
        ·
         intro w'
         go_simp
         with_reducible rfl
        rotate_left
        ·
         simp only [Act.put, List.setIfInBounds_toArray, List.set_cons_zero, List.set_cons_succ, i64_w, i32_w, IntKind.wrap_u32]
         rfl
        refine take_ (i := 1) (N := some 12) (v := ?_) (a' := ?_) #[true, true, true, false, false, true, false, true, true, false, false, false] rfl rfl (take_ofW HT_.out HW_.out (by kernel_rfl)) (fun _ _ _ h => h) (Or.inl ⟨by rfl, ?_⟩) hHeld ?_ ?_
        rotate_left
        ·
         rintro w' ⟨s0, s1, s2, s3, s4, s5, s6, s7, s8, s9⟩
         go_simp
         with_reducible rfl
        rotate_left
        ·
         simp only [Act.put, List.setIfInBounds_toArray, List.set_cons_zero, List.set_cons_succ, i64_w, i32_w, IntKind.wrap_u32]
         rfl
        refine pure_ (i := 3) (N := some 14) (v := ?_) (a' := ?_) #[true, true, true, true, false, true, false, true, true, false, false, false] rfl rfl (any_of HT_.out (by kernel_rfl)) (fun _ _ _ h => h) (Or.inl ⟨by rfl, ?_⟩) ?_ ?_
        rotate_left
        ·
         intro w'
         go_simp
         with_reducible rfl
        rotate_left
        ·
         simp only [Act.put, List.setIfInBounds_toArray, List.set_cons_zero, List.set_cons_succ, i64_w, i32_w, IntKind.wrap_u32]
         rfl
        refine take_ (i := 4) (N := some 15) (v := ?_) (a' := ?_) #[true, true, true, true, true, true, false, true, true, false, false, false] rfl rfl (take_ofW HT_.out HW_.out (by kernel_rfl)) (fun _ _ _ h => h) (Or.inl ⟨by rfl, ?_⟩) hHeld ?_ ?_
        rotate_left
        ·
         rintro w' ⟨s0, s1, s2, s3, s4, s5, s6, s7, s8, s9⟩
         go_simp
         with_reducible rfl
        rotate_left
        ·
         simp only [Act.put, List.setIfInBounds_toArray, List.set_cons_zero, List.set_cons_succ, i64_w, i32_w, IntKind.wrap_u32]
         rfl
        refine take_ (i := 6) (N := some 17) (v := ?_) (a' := ?_) #[true, true, true, true, true, true, true, true, true, false, false, false] rfl rfl (take_ofW HT_.out HW_.out (by kernel_rfl)) (fun _ _ _ h => h) (Or.inl ⟨by rfl, ?_⟩) hHeld ?_ ?_
        rotate_left
        ·
         rintro w' ⟨s0, s1, s2, s3, s4, s5, s6, s7, s8, s9⟩
         go_simp
         with_reducible rfl
        rotate_left
        ·
         simp only [Act.put, List.setIfInBounds_toArray, List.set_cons_zero, List.set_cons_succ, i64_w, i32_w, IntKind.wrap_u32]
         rfl
        refine pure_ (i := 9) (N := some 20) (v := ?_) (a' := ?_) #[true, true, true, true, true, true, true, true, true, true, false, false] rfl rfl (any_of HT_.out (by kernel_rfl)) (fun _ _ _ h => h) (Or.inl ⟨by rfl, ?_⟩) ?_ ?_
        rotate_left
        ·
         intro w'
         go_simp
         with_reducible rfl
        rotate_left
        ·
         simp only [Act.put, List.setIfInBounds_toArray, List.set_cons_zero, List.set_cons_succ, i64_w, i32_w, IntKind.wrap_u32]
         rfl
        refine take_ (i := 10) (N := some 21) (v := ?_) (a' := ?_) #[true, true, true, true, true, true, true, true, true, true, true, false] rfl rfl (take_ofW HT_.out HW_.out (by kernel_rfl)) (fun _ _ _ h => h) (Or.inl ⟨by rfl, ?_⟩) hHeld ?_ ?_
        rotate_left
        ·
         rintro w' ⟨s0, s1, s2, s3, s4, s5, s6, s7, s8, s9⟩
         go_simp
         with_reducible rfl
        rotate_left
        ·
         simp only [Act.put, List.setIfInBounds_toArray, List.set_cons_zero, List.set_cons_succ, i64_w, i32_w, IntKind.wrap_u32]
         rfl
        refine pure_ (i := 11) (N := some 22) (v := ?_) (a' := ?_) #[true, true, true, true, true, true, true, true, true, true, true, true] rfl rfl (any_of HT_.out (by kernel_rfl)) (fun _ _ _ h => h) (Or.inl ⟨by rfl, ?_⟩) ?_ ?_
        rotate_left
        ·
         intro w'
         go_simp
         with_reducible rfl
        rotate_left
        ·
         simp only [Act.put, List.setIfInBounds_toArray, List.set_cons_zero, List.set_cons_succ, i64_w, i32_w, IntKind.wrap_u32]
         rfl
        refine done_ (done_of HT_.out (by kernel_rfl)) ?_
        try go_wp2
        go_roundg k1
        case measure => have := HK1.out; omega
        case rel => exact ⟨(wrap64 (x3_1 + 1)), (by first | rfl | (simp; done) | (simp [*]; done)), H', ⟨by have := HK1.out; omega⟩, ⟨by (with_reducible repeat (first | refine blk_drewN ?_ _ | refine blk_drew ?_ | refine blk_alloc ?_ _)); exact BK1.out⟩, ⟨hbW HB⟩⟩
      ·
       rw [if_neg c7] at H
       exact absurd H (by simp)
     ·
      rw [if_neg c6] at H
      exact absurd H (by simp)
    ·
     rw [if_neg c4] at H
     exact absurd H (by simp)
   ·
    rw [if_neg c3] at H
    have c3b0 : decide (x3_1 < (l0_3.length : Int)) = false := decide_eq_false c3
    clear c3
    replace H := Option.bind_eq_some_iff.mp H
    obtain ⟨⟨t4, t5⟩, A130, H⟩ := H
    replace H : (if (!(a0_0 == t4) || (!(a0_1 == t5))) = true then (some false) else (if (l0_2.length : Int) > 255 then (some false) else (if (l0_3.length : Int) > 255 then (some false) else ((q3z.f k1 l0_2 0).bind fun t6 => (if t6 = true then (some false) else (if a0_6 ≥ 0 then (some (decide (a0_6 ≤ 2))) else (some false))))))) = some r := H
    have A13 := Aside0.mk A130
    clear A130
    by_cases c14 : (!(a0_0 == t4) || (!(a0_1 == t5))) = true
    ·
     rw [if_pos c14] at H
     have c14b0 : (!(a0_0 == t4) || (!(a0_1 == t5))) = true := c14
     clear c14
     obtain rfl := Option.some.inj H
     obtain ⟨hcz15_0, hcz15_1, hcz15_2, hcz15_3, hcz15_4, hcz15_5, hcz15_6, hcz15_7, hfz15_0, hfz15_1, hfz15_2, hfz15_3, hfz15_4, hfz15_5, hfz15_6, hfz15_7⟩ := bc8 BK1
     try go_wp2
     replace BK1 := Aside0.mk (blk_drew BK1.out)
     replace HB := Aside0.mk (below_drew1 HB.out)
     refine start_ (n := 7) (S := fun w' => w'.cell? ⟨gb1, 0, none⟩ = some (.int .u32 a0_0) ∧ w'.cell? ⟨gb1, 1, none⟩ = some (.int .i64 a0_1) ∧ w'.cell? ⟨gb1, 2, none⟩ = some (.slice A0_2 l0_2.length c0_2) ∧ w'.cell? ⟨gb1, 3, none⟩ = some (.slice A0_3 l0_3.length c0_3) ∧ w'.cell? ⟨gb1, 4, none⟩ = some (.int .u32 a0_4) ∧ w'.cell? ⟨gb1, 5, none⟩ = some (.int .u32 a0_5) ∧ w'.cell? ⟨gb1, 6, none⟩ = some (.int .i64 a0_6) ∧ w'.cell? ⟨gb1, 7, none⟩ = some (.int .u32 a0_7)) (ds := []) #[false, false, false, false, false, false, false] (by kernel_rfl) rfl rfl (bl8 BK1) (fun hHeld => ?_)
     generalize wr.drew = w16 at BK1 HB hHeld ⊢
     refine pure_ (i := 0) (N := some 24) (v := ?_) (a' := ?_) #[true, false, false, false, false, false, false] rfl rfl (by kernel_rfl) (fun _ _ _ h => h) (Or.inl ⟨by rfl, ?_⟩) ?_ ?_
     rotate_left
     ·
      intro w'
      go_simp
      with_reducible rfl
     rotate_left
     ·
      simp only [Act.put, List.setIfInBounds_toArray, List.set_cons_zero, List.set_cons_succ, i64_w, i32_w, IntKind.wrap_u32]
      rfl
     refine pure_ (i := 2) (N := some 26) (v := ?_) (a' := ?_) #[true, false, true, false, false, false, false] rfl rfl (by kernel_rfl) (fun _ _ _ h => h) (Or.inl ⟨by rfl, ?_⟩) ?_ ?_
     rotate_left
     ·
      intro w'
      go_simp
      with_reducible rfl
     rotate_left
     ·
      simp only [Act.put, List.setIfInBounds_toArray, List.set_cons_zero, List.set_cons_succ, i64_w, i32_w, IntKind.wrap_u32]
      rfl
     refine take_ (i := 1) (N := some 25) (v := ?_) (a' := ?_) #[true, true, true, false, false, false, false] rfl rfl (by kernel_rfl) (fun _ _ _ h => h) (Or.inl ⟨by rfl, ?_⟩) hHeld ?_ ?_
     rotate_left
     ·
      rintro w' ⟨s0, s1, s2, s3, s4, s5, s6, s7⟩
      go_simp
      with_reducible rfl
     rotate_left
     ·
      simp only [Act.put, List.setIfInBounds_toArray, List.set_cons_zero, List.set_cons_succ, i64_w, i32_w, IntKind.wrap_u32]
      rfl
     refine take_ (i := 3) (N := some 27) (v := ?_) (a' := ?_) #[true, true, true, true, false, false, false] rfl rfl (by kernel_rfl) (fun _ _ _ h => h) (Or.inl ⟨by rfl, ?_⟩) hHeld ?_ ?_
     rotate_left
     ·
      rintro w' ⟨s0, s1, s2, s3, s4, s5, s6, s7⟩
      go_simp
      with_reducible rfl
     rotate_left
     ·
      simp only [Act.put, List.setIfInBounds_toArray, List.set_cons_zero, List.set_cons_succ, i64_w, i32_w, IntKind.wrap_u32]
      rfl
     refine one_ (i := 4) (N := some 28) #[true, true, true, true, true, false, false] rfl rfl (by kernel_rfl) (by decide) (fun K hK => ?_)
     refine goes_ Try.func32 (by kernel_rfl) rfl #[.agg #[.int .u32 a0_0, .int .i64 a0_1]] (by rfl) rfl rfl (by (try simp only [List.map_toArray, List.map_cons, List.map_nil]); first | done | rfl | (simp only [List.length_drop, List.length_take]; rfl)) ?_
     with_reducible refine (q1z.calls a0_0 a0_1 t4 t5 _ A13.out).mono ?_
     rintro e w17 ⟨rfl, hb⟩
     refine ⟨_, rfl, ?_⟩
     replace BK1 := bkB BK1 hb
     replace HB := hbS HB hb
     (try clear hb)
     refine hK.out _ _ (bl8 BK1) (fun hHeld => ?_)
     clear hK K
     refine norm_ (a' := ?_) ?_ ?_
     rotate_left
     ·
      show Act.put _ (some 28) _ = _
      simp only [Act.put, List.setIfInBounds_toArray, List.set_cons_zero, List.set_cons_succ, i64_w, i32_w, IntKind.wrap_u32]
      rfl
     refine pure_ (i := 5) (N := some 29) (v := ?_) (a' := ?_) #[true, true, true, true, true, true, false] rfl rfl (by kernel_rfl) (fun _ _ _ h => h) (Or.inl ⟨by rfl, ?_⟩) ?_ ?_
     rotate_left
     ·
      intro w'
      go_simp
      with_reducible rfl
     rotate_left
     ·
      simp only [Act.put, List.setIfInBounds_toArray, List.set_cons_zero, List.set_cons_succ, i64_w, i32_w, IntKind.wrap_u32]
      rfl
     refine pure_ (i := 6) (N := some 23) (v := ?_) (a' := ?_) #[true, true, true, true, true, true, true] rfl rfl (by kernel_rfl) (fun _ _ _ h => h) (Or.inl ⟨by rfl, ?_⟩) ?_ ?_
     rotate_left
     ·
      intro w'
      go_simp
      with_reducible rfl
     rotate_left
     ·
      simp only [Act.put, List.setIfInBounds_toArray, List.set_cons_zero, List.set_cons_succ, i64_w, i32_w, IntKind.wrap_u32]
      rfl
     refine done_ (by kernel_rfl) ?_
     try go_wp2
     go_ret
     exact ⟨by first | rfl | (simp [errW_none, errW_some] <;> rfl) | (simp [*, errW_none, errW_some] <;> rfl), hbW HB⟩
    ·
     rw [if_neg c14] at H
     have c14b0 : (!(a0_0 == t4) || (!(a0_1 == t5))) = false := by simpa using c14
     clear c14
     by_cases c18 : (l0_2.length : Int) > 255
     ·
      rw [if_pos c18] at H
      have c18b0 : decide (255 < (l0_2.length : Int)) = true := decide_eq_true c18
      have c18b1 : decide (255 < l0_2.length) = true := decide_eq_true (by omega)
      clear c18
      obtain rfl := Option.some.inj H
      obtain ⟨hcz19_0, hcz19_1, hcz19_2, hcz19_3, hcz19_4, hcz19_5, hcz19_6, hcz19_7, hfz19_0, hfz19_1, hfz19_2, hfz19_3, hfz19_4, hfz19_5, hfz19_6, hfz19_7⟩ := bc8 BK1
      try go_wp2
      replace BK1 := Aside0.mk (blk_drew BK1.out)
      replace HB := Aside0.mk (below_drew1 HB.out)
      refine start_ (n := 7) (S := fun w' => w'.cell? ⟨gb1, 0, none⟩ = some (.int .u32 a0_0) ∧ w'.cell? ⟨gb1, 1, none⟩ = some (.int .i64 a0_1) ∧ w'.cell? ⟨gb1, 2, none⟩ = some (.slice A0_2 l0_2.length c0_2) ∧ w'.cell? ⟨gb1, 3, none⟩ = some (.slice A0_3 l0_3.length c0_3) ∧ w'.cell? ⟨gb1, 4, none⟩ = some (.int .u32 a0_4) ∧ w'.cell? ⟨gb1, 5, none⟩ = some (.int .u32 a0_5) ∧ w'.cell? ⟨gb1, 6, none⟩ = some (.int .i64 a0_6) ∧ w'.cell? ⟨gb1, 7, none⟩ = some (.int .u32 a0_7)) (ds := []) #[false, false, false, false, false, false, false] (by kernel_rfl) rfl rfl (bl8 BK1) (fun hHeld => ?_)
      generalize wr.drew = w20 at BK1 HB hHeld ⊢
      refine pure_ (i := 0) (N := some 24) (v := ?_) (a' := ?_) #[true, false, false, false, false, false, false] rfl rfl (by kernel_rfl) (fun _ _ _ h => h) (Or.inl ⟨by rfl, ?_⟩) ?_ ?_
      rotate_left
      ·
       intro w'
       go_simp
       with_reducible rfl
      rotate_left
      ·
       simp only [Act.put, List.setIfInBounds_toArray, List.set_cons_zero, List.set_cons_succ, i64_w, i32_w, IntKind.wrap_u32]
       rfl
      refine pure_ (i := 2) (N := some 26) (v := ?_) (a' := ?_) #[true, false, true, false, false, false, false] rfl rfl (by kernel_rfl) (fun _ _ _ h => h) (Or.inl ⟨by rfl, ?_⟩) ?_ ?_
      rotate_left
      ·
       intro w'
       go_simp
       with_reducible rfl
      rotate_left
      ·
       simp only [Act.put, List.setIfInBounds_toArray, List.set_cons_zero, List.set_cons_succ, i64_w, i32_w, IntKind.wrap_u32]
       rfl
      refine take_ (i := 1) (N := some 25) (v := ?_) (a' := ?_) #[true, true, true, false, false, false, false] rfl rfl (by kernel_rfl) (fun _ _ _ h => h) (Or.inl ⟨by rfl, ?_⟩) hHeld ?_ ?_
      rotate_left
      ·
       rintro w' ⟨s0, s1, s2, s3, s4, s5, s6, s7⟩
       go_simp
       with_reducible rfl
      rotate_left
      ·
       simp only [Act.put, List.setIfInBounds_toArray, List.set_cons_zero, List.set_cons_succ, i64_w, i32_w, IntKind.wrap_u32]
       rfl
      refine take_ (i := 3) (N := some 27) (v := ?_) (a' := ?_) #[true, true, true, true, false, false, false] rfl rfl (by kernel_rfl) (fun _ _ _ h => h) (Or.inl ⟨by rfl, ?_⟩) hHeld ?_ ?_
      rotate_left
      ·
       rintro w' ⟨s0, s1, s2, s3, s4, s5, s6, s7⟩
       go_simp
       with_reducible rfl
      rotate_left
      ·
       simp only [Act.put, List.setIfInBounds_toArray, List.set_cons_zero, List.set_cons_succ, i64_w, i32_w, IntKind.wrap_u32]
       rfl
      refine one_ (i := 4) (N := some 28) #[true, true, true, true, true, false, false] rfl rfl (by kernel_rfl) (by decide) (fun K hK => ?_)
      refine goes_ Try.func32 (by kernel_rfl) rfl #[.agg #[.int .u32 a0_0, .int .i64 a0_1]] (by rfl) rfl rfl (by (try simp only [List.map_toArray, List.map_cons, List.map_nil]); first | done | rfl | (simp only [List.length_drop, List.length_take]; rfl)) ?_
      with_reducible refine (q1z.calls a0_0 a0_1 t4 t5 _ A13.out).mono ?_
      rintro e w21 ⟨rfl, hb⟩
      refine ⟨_, rfl, ?_⟩
      replace BK1 := bkB BK1 hb
      replace HB := hbS HB hb
      (try clear hb)
      refine hK.out _ _ (bl8 BK1) (fun hHeld => ?_)
      clear hK K
      refine norm_ (a' := ?_) ?_ ?_
      rotate_left
      ·
       show Act.put _ (some 28) _ = _
       simp only [Act.put, List.setIfInBounds_toArray, List.set_cons_zero, List.set_cons_succ, i64_w, i32_w, IntKind.wrap_u32]
       rfl
      refine pure_ (i := 5) (N := some 29) (v := ?_) (a' := ?_) #[true, true, true, true, true, true, false] rfl rfl (by kernel_rfl) (fun _ _ _ h => h) (Or.inl ⟨by rfl, ?_⟩) ?_ ?_
      rotate_left
      ·
       intro w'
       go_simp
       with_reducible rfl
      rotate_left
      ·
       simp only [Act.put, List.setIfInBounds_toArray, List.set_cons_zero, List.set_cons_succ, i64_w, i32_w, IntKind.wrap_u32]
       rfl
      refine pure_ (i := 6) (N := some 23) (v := ?_) (a' := ?_) #[true, true, true, true, true, true, true] rfl rfl (by kernel_rfl) (fun _ _ _ h => h) (Or.inl ⟨by rfl, ?_⟩) ?_ ?_
      rotate_left
      ·
       intro w'
       go_simp
       with_reducible rfl
      rotate_left
      ·
       simp only [Act.put, List.setIfInBounds_toArray, List.set_cons_zero, List.set_cons_succ, i64_w, i32_w, IntKind.wrap_u32]
       rfl
      refine done_ (by kernel_rfl) ?_
      obtain ⟨hcz22_0, hcz22_1, hcz22_2, hcz22_3, hcz22_4, hcz22_5, hcz22_6, hcz22_7, hfz22_0, hfz22_1, hfz22_2, hfz22_3, hfz22_4, hfz22_5, hfz22_6, hfz22_7⟩ := bc8 BK1
      try go_wp2
      go_ret
      exact ⟨by first | rfl | (simp [errW_none, errW_some] <;> rfl) | (simp [*, errW_none, errW_some] <;> rfl), hbW HB⟩
     ·
      rw [if_neg c18] at H
      have c18b0 : decide (255 < (l0_2.length : Int)) = false := decide_eq_false c18
      have c18b1 : decide (255 < l0_2.length) = false := decide_eq_false (by omega)
      clear c18
      by_cases c23 : (l0_3.length : Int) > 255
      ·
       rw [if_pos c23] at H
       have c23b0 : decide (255 < (l0_3.length : Int)) = true := decide_eq_true c23
       have c23b1 : decide (255 < l0_3.length) = true := decide_eq_true (by omega)
       clear c23
       obtain rfl := Option.some.inj H
       obtain ⟨hcz24_0, hcz24_1, hcz24_2, hcz24_3, hcz24_4, hcz24_5, hcz24_6, hcz24_7, hfz24_0, hfz24_1, hfz24_2, hfz24_3, hfz24_4, hfz24_5, hfz24_6, hfz24_7⟩ := bc8 BK1
       try go_wp2
       replace BK1 := Aside0.mk (blk_drew BK1.out)
       replace HB := Aside0.mk (below_drew1 HB.out)
       refine start_ (n := 7) (S := fun w' => w'.cell? ⟨gb1, 0, none⟩ = some (.int .u32 a0_0) ∧ w'.cell? ⟨gb1, 1, none⟩ = some (.int .i64 a0_1) ∧ w'.cell? ⟨gb1, 2, none⟩ = some (.slice A0_2 l0_2.length c0_2) ∧ w'.cell? ⟨gb1, 3, none⟩ = some (.slice A0_3 l0_3.length c0_3) ∧ w'.cell? ⟨gb1, 4, none⟩ = some (.int .u32 a0_4) ∧ w'.cell? ⟨gb1, 5, none⟩ = some (.int .u32 a0_5) ∧ w'.cell? ⟨gb1, 6, none⟩ = some (.int .i64 a0_6) ∧ w'.cell? ⟨gb1, 7, none⟩ = some (.int .u32 a0_7)) (ds := []) #[false, false, false, false, false, false, false] (by kernel_rfl) rfl rfl (bl8 BK1) (fun hHeld => ?_)
       generalize wr.drew = w25 at BK1 HB hHeld ⊢
       refine pure_ (i := 0) (N := some 24) (v := ?_) (a' := ?_) #[true, false, false, false, false, false, false] rfl rfl (by kernel_rfl) (fun _ _ _ h => h) (Or.inl ⟨by rfl, ?_⟩) ?_ ?_
       rotate_left
       ·
        intro w'
        go_simp
        with_reducible rfl
       rotate_left
       ·
        simp only [Act.put, List.setIfInBounds_toArray, List.set_cons_zero, List.set_cons_succ, i64_w, i32_w, IntKind.wrap_u32]
        rfl
       refine pure_ (i := 2) (N := some 26) (v := ?_) (a' := ?_) #[true, false, true, false, false, false, false] rfl rfl (by kernel_rfl) (fun _ _ _ h => h) (Or.inl ⟨by rfl, ?_⟩) ?_ ?_
       rotate_left
       ·
        intro w'
        go_simp
        with_reducible rfl
       rotate_left
       ·
        simp only [Act.put, List.setIfInBounds_toArray, List.set_cons_zero, List.set_cons_succ, i64_w, i32_w, IntKind.wrap_u32]
        rfl
       refine take_ (i := 1) (N := some 25) (v := ?_) (a' := ?_) #[true, true, true, false, false, false, false] rfl rfl (by kernel_rfl) (fun _ _ _ h => h) (Or.inl ⟨by rfl, ?_⟩) hHeld ?_ ?_
       rotate_left
       ·
        rintro w' ⟨s0, s1, s2, s3, s4, s5, s6, s7⟩
        go_simp
        with_reducible rfl
       rotate_left
       ·
        simp only [Act.put, List.setIfInBounds_toArray, List.set_cons_zero, List.set_cons_succ, i64_w, i32_w, IntKind.wrap_u32]
        rfl
       refine take_ (i := 3) (N := some 27) (v := ?_) (a' := ?_) #[true, true, true, true, false, false, false] rfl rfl (by kernel_rfl) (fun _ _ _ h => h) (Or.inl ⟨by rfl, ?_⟩) hHeld ?_ ?_
       rotate_left
       ·
        rintro w' ⟨s0, s1, s2, s3, s4, s5, s6, s7⟩
        go_simp
        with_reducible rfl
       rotate_left
       ·
        simp only [Act.put, List.setIfInBounds_toArray, List.set_cons_zero, List.set_cons_succ, i64_w, i32_w, IntKind.wrap_u32]
        rfl
       refine one_ (i := 4) (N := some 28) #[true, true, true, true, true, false, false] rfl rfl (by kernel_rfl) (by decide) (fun K hK => ?_)
       refine goes_ Try.func32 (by kernel_rfl) rfl #[.agg #[.int .u32 a0_0, .int .i64 a0_1]] (by rfl) rfl rfl (by (try simp only [List.map_toArray, List.map_cons, List.map_nil]); first | done | rfl | (simp only [List.length_drop, List.length_take]; rfl)) ?_
       with_reducible refine (q1z.calls a0_0 a0_1 t4 t5 _ A13.out).mono ?_
       rintro e w26 ⟨rfl, hb⟩
       refine ⟨_, rfl, ?_⟩
       replace BK1 := bkB BK1 hb
       replace HB := hbS HB hb
       (try clear hb)
       refine hK.out _ _ (bl8 BK1) (fun hHeld => ?_)
       clear hK K
       refine norm_ (a' := ?_) ?_ ?_
       rotate_left
       ·
        show Act.put _ (some 28) _ = _
        simp only [Act.put, List.setIfInBounds_toArray, List.set_cons_zero, List.set_cons_succ, i64_w, i32_w, IntKind.wrap_u32]
        rfl
       refine pure_ (i := 5) (N := some 29) (v := ?_) (a' := ?_) #[true, true, true, true, true, true, false] rfl rfl (by kernel_rfl) (fun _ _ _ h => h) (Or.inl ⟨by rfl, ?_⟩) ?_ ?_
       rotate_left
       ·
        intro w'
        go_simp
        with_reducible rfl
       rotate_left
       ·
        simp only [Act.put, List.setIfInBounds_toArray, List.set_cons_zero, List.set_cons_succ, i64_w, i32_w, IntKind.wrap_u32]
        rfl
       refine pure_ (i := 6) (N := some 23) (v := ?_) (a' := ?_) #[true, true, true, true, true, true, true] rfl rfl (by kernel_rfl) (fun _ _ _ h => h) (Or.inl ⟨by rfl, ?_⟩) ?_ ?_
       rotate_left
       ·
        intro w'
        go_simp
        with_reducible rfl
       rotate_left
       ·
        simp only [Act.put, List.setIfInBounds_toArray, List.set_cons_zero, List.set_cons_succ, i64_w, i32_w, IntKind.wrap_u32]
        rfl
       refine done_ (by kernel_rfl) ?_
       obtain ⟨hcz27_0, hcz27_1, hcz27_2, hcz27_3, hcz27_4, hcz27_5, hcz27_6, hcz27_7, hfz27_0, hfz27_1, hfz27_2, hfz27_3, hfz27_4, hfz27_5, hfz27_6, hfz27_7⟩ := bc8 BK1
       try go_wp2
       go_ret
       exact ⟨by first | rfl | (simp [errW_none, errW_some] <;> rfl) | (simp [*, errW_none, errW_some] <;> rfl), hbW HB⟩
      ·
       rw [if_neg c23] at H
       have c23b0 : decide (255 < (l0_3.length : Int)) = false := decide_eq_false c23
       have c23b1 : decide (255 < l0_3.length) = false := decide_eq_false (by omega)
       clear c23
       replace H := Option.bind_eq_some_iff.mp H
       obtain ⟨t6, A280, H⟩ := H
       replace H : (if t6 = true then (some false) else (if a0_6 ≥ 0 then (some (decide (a0_6 ≤ 2))) else (some false))) = some r := H
       have A28 := Aside0.mk A280
       clear A280
       by_cases c29 : t6 = true
       ·
        subst c29
        have H1 : (some false) = some r := by rw [if_pos rfl] at H; exact H
        clear H
        have H := H1
        clear H1
        obtain rfl := Option.some.inj H
        obtain ⟨hcz30_0, hcz30_1, hcz30_2, hcz30_3, hcz30_4, hcz30_5, hcz30_6, hcz30_7, hfz30_0, hfz30_1, hfz30_2, hfz30_3, hfz30_4, hfz30_5, hfz30_6, hfz30_7⟩ := bc8 BK1
        try go_wp2
        replace BK1 := Aside0.mk (blk_drew BK1.out)
        replace HB := Aside0.mk (below_drew1 HB.out)
        refine start_ (n := 7) (S := fun w' => w'.cell? ⟨gb1, 0, none⟩ = some (.int .u32 a0_0) ∧ w'.cell? ⟨gb1, 1, none⟩ = some (.int .i64 a0_1) ∧ w'.cell? ⟨gb1, 2, none⟩ = some (.slice A0_2 l0_2.length c0_2) ∧ w'.cell? ⟨gb1, 3, none⟩ = some (.slice A0_3 l0_3.length c0_3) ∧ w'.cell? ⟨gb1, 4, none⟩ = some (.int .u32 a0_4) ∧ w'.cell? ⟨gb1, 5, none⟩ = some (.int .u32 a0_5) ∧ w'.cell? ⟨gb1, 6, none⟩ = some (.int .i64 a0_6) ∧ w'.cell? ⟨gb1, 7, none⟩ = some (.int .u32 a0_7)) (ds := []) #[false, false, false, false, false, false, false] (by kernel_rfl) rfl rfl (bl8 BK1) (fun hHeld => ?_)
        generalize wr.drew = w31 at BK1 HB hHeld ⊢
        refine pure_ (i := 0) (N := some 24) (v := ?_) (a' := ?_) #[true, false, false, false, false, false, false] rfl rfl (by kernel_rfl) (fun _ _ _ h => h) (Or.inl ⟨by rfl, ?_⟩) ?_ ?_
        rotate_left
        ·
         intro w'
         go_simp
         with_reducible rfl
        rotate_left
        ·
         simp only [Act.put, List.setIfInBounds_toArray, List.set_cons_zero, List.set_cons_succ, i64_w, i32_w, IntKind.wrap_u32]
         rfl
        refine pure_ (i := 2) (N := some 26) (v := ?_) (a' := ?_) #[true, false, true, false, false, false, false] rfl rfl (by kernel_rfl) (fun _ _ _ h => h) (Or.inl ⟨by rfl, ?_⟩) ?_ ?_
        rotate_left
        ·
         intro w'
         go_simp
         with_reducible rfl
        rotate_left
        ·
         simp only [Act.put, List.setIfInBounds_toArray, List.set_cons_zero, List.set_cons_succ, i64_w, i32_w, IntKind.wrap_u32]
         rfl
        refine take_ (i := 1) (N := some 25) (v := ?_) (a' := ?_) #[true, true, true, false, false, false, false] rfl rfl (by kernel_rfl) (fun _ _ _ h => h) (Or.inl ⟨by rfl, ?_⟩) hHeld ?_ ?_
        rotate_left
        ·
         rintro w' ⟨s0, s1, s2, s3, s4, s5, s6, s7⟩
         go_simp
         with_reducible rfl
        rotate_left
        ·
         simp only [Act.put, List.setIfInBounds_toArray, List.set_cons_zero, List.set_cons_succ, i64_w, i32_w, IntKind.wrap_u32]
         rfl
        refine take_ (i := 3) (N := some 27) (v := ?_) (a' := ?_) #[true, true, true, true, false, false, false] rfl rfl (by kernel_rfl) (fun _ _ _ h => h) (Or.inl ⟨by rfl, ?_⟩) hHeld ?_ ?_
        rotate_left
        ·
         rintro w' ⟨s0, s1, s2, s3, s4, s5, s6, s7⟩
         go_simp
         with_reducible rfl
        rotate_left
        ·
         simp only [Act.put, List.setIfInBounds_toArray, List.set_cons_zero, List.set_cons_succ, i64_w, i32_w, IntKind.wrap_u32]
         rfl
        refine one_ (i := 4) (N := some 28) #[true, true, true, true, true, false, false] rfl rfl (by kernel_rfl) (by decide) (fun K hK => ?_)
        refine goes_ Try.func32 (by kernel_rfl) rfl #[.agg #[.int .u32 a0_0, .int .i64 a0_1]] (by rfl) rfl rfl (by (try simp only [List.map_toArray, List.map_cons, List.map_nil]); first | done | rfl | (simp only [List.length_drop, List.length_take]; rfl)) ?_
        with_reducible refine (q1z.calls a0_0 a0_1 t4 t5 _ A13.out).mono ?_
        rintro e w32 ⟨rfl, hb⟩
        refine ⟨_, rfl, ?_⟩
        replace BK1 := bkB BK1 hb
        replace HB := hbS HB hb
        (try clear hb)
        refine hK.out _ _ (bl8 BK1) (fun hHeld => ?_)
        clear hK K
        refine norm_ (a' := ?_) ?_ ?_
        rotate_left
        ·
         show Act.put _ (some 28) _ = _
         simp only [Act.put, List.setIfInBounds_toArray, List.set_cons_zero, List.set_cons_succ, i64_w, i32_w, IntKind.wrap_u32]
         rfl
        refine pure_ (i := 5) (N := some 29) (v := ?_) (a' := ?_) #[true, true, true, true, true, true, false] rfl rfl (by kernel_rfl) (fun _ _ _ h => h) (Or.inl ⟨by rfl, ?_⟩) ?_ ?_
        rotate_left
        ·
         intro w'
         go_simp
         with_reducible rfl
        rotate_left
        ·
         simp only [Act.put, List.setIfInBounds_toArray, List.set_cons_zero, List.set_cons_succ, i64_w, i32_w, IntKind.wrap_u32]
         rfl
        refine pure_ (i := 6) (N := some 23) (v := ?_) (a' := ?_) #[true, true, true, true, true, true, true] rfl rfl (by kernel_rfl) (fun _ _ _ h => h) (Or.inl ⟨by rfl, ?_⟩) ?_ ?_
        rotate_left
        ·
         intro w'
         go_simp
         with_reducible rfl
        rotate_left
        ·
         simp only [Act.put, List.setIfInBounds_toArray, List.set_cons_zero, List.set_cons_succ, i64_w, i32_w, IntKind.wrap_u32]
         rfl
        refine done_ (by kernel_rfl) ?_
        obtain ⟨hcz33_0, hcz33_1, hcz33_2, hcz33_3, hcz33_4, hcz33_5, hcz33_6, hcz33_7, hfz33_0, hfz33_1, hfz33_2, hfz33_3, hfz33_4, hfz33_5, hfz33_6, hfz33_7⟩ := bc8 BK1
        try go_wp2_with (first | ((with_reducible refine gate_callee (f := 56) rfl ?_); refine goesL_ (some 40) rfl rfl Try.func56 (by kernel_rfl) rfl #[.slice A0_2 l0_2.length c0_2, .int .u32 0] rfl (by (try simp only [List.map_toArray, List.map_cons, List.map_nil]); first | done | rfl | (simp only [List.length_drop, List.length_take]; rfl)) ?_; (with_reducible refine (q3z.calls k1 _ _ l0_2 0 true _ ?side1 ?side2 A28.out).mono ?_); (case side1 => repeat (first | exact (Kd.C_below HR0_2.out HB.out) | (with_reducible refine Kd.C_alloc ?_ _) | (with_reducible refine Kd.C_drewN ?_ _) | (with_reducible refine Kd.C_drew ?_))); (case side2 => exact HC0_2.out); rintro e w' ⟨rfl, ⟨nd, rfl⟩⟩; refine ⟨_, rfl, ?_⟩))
        go_ret
        exact ⟨by first | rfl | (simp [errW_none, errW_some] <;> rfl) | (simp [*, errW_none, errW_some] <;> rfl), hbW HB⟩
       ·
        replace c29 := Bool.eq_false_iff.mpr c29
        subst c29
        have H1 : (if a0_6 ≥ 0 then (some (decide (a0_6 ≤ 2))) else (some false)) = some r := by rw [if_neg (show ¬ (false = true) by decide)] at H; exact H
        clear H
        have H := H1
        clear H1
        by_cases c34 : a0_6 ≥ 0
        ·
         rw [if_pos c34] at H
         have c34b0 : decide (0 ≤ a0_6) = true := decide_eq_true c34
         clear c34
         obtain rfl := Option.some.inj H
         obtain ⟨hcz35_0, hcz35_1, hcz35_2, hcz35_3, hcz35_4, hcz35_5, hcz35_6, hcz35_7, hfz35_0, hfz35_1, hfz35_2, hfz35_3, hfz35_4, hfz35_5, hfz35_6, hfz35_7⟩ := bc8 BK1
         try go_wp2
         replace BK1 := Aside0.mk (blk_drew BK1.out)
         replace HB := Aside0.mk (below_drew1 HB.out)
         refine start_ (n := 7) (S := fun w' => w'.cell? ⟨gb1, 0, none⟩ = some (.int .u32 a0_0) ∧ w'.cell? ⟨gb1, 1, none⟩ = some (.int .i64 a0_1) ∧ w'.cell? ⟨gb1, 2, none⟩ = some (.slice A0_2 l0_2.length c0_2) ∧ w'.cell? ⟨gb1, 3, none⟩ = some (.slice A0_3 l0_3.length c0_3) ∧ w'.cell? ⟨gb1, 4, none⟩ = some (.int .u32 a0_4) ∧ w'.cell? ⟨gb1, 5, none⟩ = some (.int .u32 a0_5) ∧ w'.cell? ⟨gb1, 6, none⟩ = some (.int .i64 a0_6) ∧ w'.cell? ⟨gb1, 7, none⟩ = some (.int .u32 a0_7)) (ds := []) #[false, false, false, false, false, false, false] (by kernel_rfl) rfl rfl (bl8 BK1) (fun hHeld => ?_)
         generalize wr.drew = w36 at BK1 HB hHeld ⊢
         refine pure_ (i := 0) (N := some 24) (v := ?_) (a' := ?_) #[true, false, false, false, false, false, false] rfl rfl (by kernel_rfl) (fun _ _ _ h => h) (Or.inl ⟨by rfl, ?_⟩) ?_ ?_
         rotate_left
         ·
          intro w'
          go_simp
          with_reducible rfl
         rotate_left
         ·
          simp only [Act.put, List.setIfInBounds_toArray, List.set_cons_zero, List.set_cons_succ, i64_w, i32_w, IntKind.wrap_u32]
          rfl
         refine pure_ (i := 2) (N := some 26) (v := ?_) (a' := ?_) #[true, false, true, false, false, false, false] rfl rfl (by kernel_rfl) (fun _ _ _ h => h) (Or.inl ⟨by rfl, ?_⟩) ?_ ?_
         rotate_left
         ·
          intro w'
          go_simp
          with_reducible rfl
         rotate_left
         ·
          simp only [Act.put, List.setIfInBounds_toArray, List.set_cons_zero, List.set_cons_succ, i64_w, i32_w, IntKind.wrap_u32]
          rfl
         refine take_ (i := 1) (N := some 25) (v := ?_) (a' := ?_) #[true, true, true, false, false, false, false] rfl rfl (by kernel_rfl) (fun _ _ _ h => h) (Or.inl ⟨by rfl, ?_⟩) hHeld ?_ ?_
         rotate_left
         ·
          rintro w' ⟨s0, s1, s2, s3, s4, s5, s6, s7⟩
          go_simp
          with_reducible rfl
         rotate_left
         ·
          simp only [Act.put, List.setIfInBounds_toArray, List.set_cons_zero, List.set_cons_succ, i64_w, i32_w, IntKind.wrap_u32]
          rfl
         refine take_ (i := 3) (N := some 27) (v := ?_) (a' := ?_) #[true, true, true, true, false, false, false] rfl rfl (by kernel_rfl) (fun _ _ _ h => h) (Or.inl ⟨by rfl, ?_⟩) hHeld ?_ ?_
         rotate_left
         ·
          rintro w' ⟨s0, s1, s2, s3, s4, s5, s6, s7⟩
          go_simp
          with_reducible rfl
         rotate_left
         ·
          simp only [Act.put, List.setIfInBounds_toArray, List.set_cons_zero, List.set_cons_succ, i64_w, i32_w, IntKind.wrap_u32]
          rfl
         refine one_ (i := 4) (N := some 28) #[true, true, true, true, true, false, false] rfl rfl (by kernel_rfl) (by decide) (fun K hK => ?_)
         refine goes_ Try.func32 (by kernel_rfl) rfl #[.agg #[.int .u32 a0_0, .int .i64 a0_1]] (by rfl) rfl rfl (by (try simp only [List.map_toArray, List.map_cons, List.map_nil]); first | done | rfl | (simp only [List.length_drop, List.length_take]; rfl)) ?_
         with_reducible refine (q1z.calls a0_0 a0_1 t4 t5 _ A13.out).mono ?_
         rintro e w37 ⟨rfl, hb⟩
         refine ⟨_, rfl, ?_⟩
         replace BK1 := bkB BK1 hb
         replace HB := hbS HB hb
         (try clear hb)
         refine hK.out _ _ (bl8 BK1) (fun hHeld => ?_)
         clear hK K
         refine norm_ (a' := ?_) ?_ ?_
         rotate_left
         ·
          show Act.put _ (some 28) _ = _
          simp only [Act.put, List.setIfInBounds_toArray, List.set_cons_zero, List.set_cons_succ, i64_w, i32_w, IntKind.wrap_u32]
          rfl
         refine pure_ (i := 5) (N := some 29) (v := ?_) (a' := ?_) #[true, true, true, true, true, true, false] rfl rfl (by kernel_rfl) (fun _ _ _ h => h) (Or.inl ⟨by rfl, ?_⟩) ?_ ?_
         rotate_left
         ·
          intro w'
          go_simp
          with_reducible rfl
         rotate_left
         ·
          simp only [Act.put, List.setIfInBounds_toArray, List.set_cons_zero, List.set_cons_succ, i64_w, i32_w, IntKind.wrap_u32]
          rfl
         refine pure_ (i := 6) (N := some 23) (v := ?_) (a' := ?_) #[true, true, true, true, true, true, true] rfl rfl (by kernel_rfl) (fun _ _ _ h => h) (Or.inl ⟨by rfl, ?_⟩) ?_ ?_
         rotate_left
         ·
          intro w'
          go_simp
          with_reducible rfl
         rotate_left
         ·
          simp only [Act.put, List.setIfInBounds_toArray, List.set_cons_zero, List.set_cons_succ, i64_w, i32_w, IntKind.wrap_u32]
          rfl
         refine done_ (by kernel_rfl) ?_
         obtain ⟨hcz38_0, hcz38_1, hcz38_2, hcz38_3, hcz38_4, hcz38_5, hcz38_6, hcz38_7, hfz38_0, hfz38_1, hfz38_2, hfz38_3, hfz38_4, hfz38_5, hfz38_6, hfz38_7⟩ := bc8 BK1
         try go_wp2_with (first | ((with_reducible refine gate_callee (f := 56) rfl ?_); refine goesL_ (some 40) rfl rfl Try.func56 (by kernel_rfl) rfl #[.slice A0_2 l0_2.length c0_2, .int .u32 0] rfl (by (try simp only [List.map_toArray, List.map_cons, List.map_nil]); first | done | rfl | (simp only [List.length_drop, List.length_take]; rfl)) ?_; (with_reducible refine (q3z.calls k1 _ _ l0_2 0 false _ ?side1 ?side2 A28.out).mono ?_); (case side1 => repeat (first | exact (Kd.C_below HR0_2.out HB.out) | (with_reducible refine Kd.C_alloc ?_ _) | (with_reducible refine Kd.C_drewN ?_ _) | (with_reducible refine Kd.C_drew ?_))); (case side2 => exact HC0_2.out); rintro e w' ⟨rfl, ⟨nd, rfl⟩⟩; refine ⟨_, rfl, ?_⟩))
         go_ret
         exact ⟨by first | rfl | (simp [errW_none, errW_some] <;> rfl) | (simp [*, errW_none, errW_some] <;> rfl), hbW HB⟩
        ·
         rw [if_neg c34] at H
         have c34b0 : decide (0 ≤ a0_6) = false := decide_eq_false c34
         clear c34
         obtain rfl := Option.some.inj H
         obtain ⟨hcz39_0, hcz39_1, hcz39_2, hcz39_3, hcz39_4, hcz39_5, hcz39_6, hcz39_7, hfz39_0, hfz39_1, hfz39_2, hfz39_3, hfz39_4, hfz39_5, hfz39_6, hfz39_7⟩ := bc8 BK1
         try go_wp2
         replace BK1 := Aside0.mk (blk_drew BK1.out)
         replace HB := Aside0.mk (below_drew1 HB.out)
         refine start_ (n := 7) (S := fun w' => w'.cell? ⟨gb1, 0, none⟩ = some (.int .u32 a0_0) ∧ w'.cell? ⟨gb1, 1, none⟩ = some (.int .i64 a0_1) ∧ w'.cell? ⟨gb1, 2, none⟩ = some (.slice A0_2 l0_2.length c0_2) ∧ w'.cell? ⟨gb1, 3, none⟩ = some (.slice A0_3 l0_3.length c0_3) ∧ w'.cell? ⟨gb1, 4, none⟩ = some (.int .u32 a0_4) ∧ w'.cell? ⟨gb1, 5, none⟩ = some (.int .u32 a0_5) ∧ w'.cell? ⟨gb1, 6, none⟩ = some (.int .i64 a0_6) ∧ w'.cell? ⟨gb1, 7, none⟩ = some (.int .u32 a0_7)) (ds := []) #[false, false, false, false, false, false, false] (by kernel_rfl) rfl rfl (bl8 BK1) (fun hHeld => ?_)
         generalize wr.drew = w40 at BK1 HB hHeld ⊢
         refine pure_ (i := 0) (N := some 24) (v := ?_) (a' := ?_) #[true, false, false, false, false, false, false] rfl rfl (by kernel_rfl) (fun _ _ _ h => h) (Or.inl ⟨by rfl, ?_⟩) ?_ ?_
         rotate_left
         ·
          intro w'
          go_simp
          with_reducible rfl
         rotate_left
         ·
          simp only [Act.put, List.setIfInBounds_toArray, List.set_cons_zero, List.set_cons_succ, i64_w, i32_w, IntKind.wrap_u32]
          rfl
         refine pure_ (i := 2) (N := some 26) (v := ?_) (a' := ?_) #[true, false, true, false, false, false, false] rfl rfl (by kernel_rfl) (fun _ _ _ h => h) (Or.inl ⟨by rfl, ?_⟩) ?_ ?_
         rotate_left
         ·
          intro w'
          go_simp
          with_reducible rfl
         rotate_left
         ·
          simp only [Act.put, List.setIfInBounds_toArray, List.set_cons_zero, List.set_cons_succ, i64_w, i32_w, IntKind.wrap_u32]
          rfl
         refine take_ (i := 1) (N := some 25) (v := ?_) (a' := ?_) #[true, true, true, false, false, false, false] rfl rfl (by kernel_rfl) (fun _ _ _ h => h) (Or.inl ⟨by rfl, ?_⟩) hHeld ?_ ?_
         rotate_left
         ·
          rintro w' ⟨s0, s1, s2, s3, s4, s5, s6, s7⟩
          go_simp
          with_reducible rfl
         rotate_left
         ·
          simp only [Act.put, List.setIfInBounds_toArray, List.set_cons_zero, List.set_cons_succ, i64_w, i32_w, IntKind.wrap_u32]
          rfl
         refine take_ (i := 3) (N := some 27) (v := ?_) (a' := ?_) #[true, true, true, true, false, false, false] rfl rfl (by kernel_rfl) (fun _ _ _ h => h) (Or.inl ⟨by rfl, ?_⟩) hHeld ?_ ?_
         rotate_left
         ·
          rintro w' ⟨s0, s1, s2, s3, s4, s5, s6, s7⟩
          go_simp
          with_reducible rfl
         rotate_left
         ·
          simp only [Act.put, List.setIfInBounds_toArray, List.set_cons_zero, List.set_cons_succ, i64_w, i32_w, IntKind.wrap_u32]
          rfl
         refine one_ (i := 4) (N := some 28) #[true, true, true, true, true, false, false] rfl rfl (by kernel_rfl) (by decide) (fun K hK => ?_)
         refine goes_ Try.func32 (by kernel_rfl) rfl #[.agg #[.int .u32 a0_0, .int .i64 a0_1]] (by rfl) rfl rfl (by (try simp only [List.map_toArray, List.map_cons, List.map_nil]); first | done | rfl | (simp only [List.length_drop, List.length_take]; rfl)) ?_
         with_reducible refine (q1z.calls a0_0 a0_1 t4 t5 _ A13.out).mono ?_
         rintro e w41 ⟨rfl, hb⟩
         refine ⟨_, rfl, ?_⟩
         replace BK1 := bkB BK1 hb
         replace HB := hbS HB hb
         (try clear hb)
         refine hK.out _ _ (bl8 BK1) (fun hHeld => ?_)
         clear hK K
         refine norm_ (a' := ?_) ?_ ?_
         rotate_left
         ·
          show Act.put _ (some 28) _ = _
          simp only [Act.put, List.setIfInBounds_toArray, List.set_cons_zero, List.set_cons_succ, i64_w, i32_w, IntKind.wrap_u32]
          rfl
         refine pure_ (i := 5) (N := some 29) (v := ?_) (a' := ?_) #[true, true, true, true, true, true, false] rfl rfl (by kernel_rfl) (fun _ _ _ h => h) (Or.inl ⟨by rfl, ?_⟩) ?_ ?_
         rotate_left
         ·
          intro w'
          go_simp
          with_reducible rfl
         rotate_left
         ·
          simp only [Act.put, List.setIfInBounds_toArray, List.set_cons_zero, List.set_cons_succ, i64_w, i32_w, IntKind.wrap_u32]
          rfl
         refine pure_ (i := 6) (N := some 23) (v := ?_) (a' := ?_) #[true, true, true, true, true, true, true] rfl rfl (by kernel_rfl) (fun _ _ _ h => h) (Or.inl ⟨by rfl, ?_⟩) ?_ ?_
         rotate_left
         ·
          intro w'
          go_simp
          with_reducible rfl
         rotate_left
         ·
          simp only [Act.put, List.setIfInBounds_toArray, List.set_cons_zero, List.set_cons_succ, i64_w, i32_w, IntKind.wrap_u32]
          rfl
         refine done_ (by kernel_rfl) ?_
         obtain ⟨hcz42_0, hcz42_1, hcz42_2, hcz42_3, hcz42_4, hcz42_5, hcz42_6, hcz42_7, hfz42_0, hfz42_1, hfz42_2, hfz42_3, hfz42_4, hfz42_5, hfz42_6, hfz42_7⟩ := bc8 BK1
         try go_wp2_with (first | ((with_reducible refine gate_callee (f := 56) rfl ?_); refine goesL_ (some 40) rfl rfl Try.func56 (by kernel_rfl) rfl #[.slice A0_2 l0_2.length c0_2, .int .u32 0] rfl (by (try simp only [List.map_toArray, List.map_cons, List.map_nil]); first | done | rfl | (simp only [List.length_drop, List.length_take]; rfl)) ?_; (with_reducible refine (q3z.calls k1 _ _ l0_2 0 false _ ?side1 ?side2 A28.out).mono ?_); (case side1 => repeat (first | exact (Kd.C_below HR0_2.out HB.out) | (with_reducible refine Kd.C_alloc ?_ _) | (with_reducible refine Kd.C_drewN ?_ _) | (with_reducible refine Kd.C_drew ?_))); (case side2 => exact HC0_2.out); rintro e w' ⟨rfl, ⟨nd, rfl⟩⟩; refine ⟨_, rfl, ?_⟩))
         go_ret
         exact ⟨by first | rfl | (simp [errW_none, errW_some] <;> rfl) | (simp [*, errW_none, errW_some] <;> rfl), hbW HB⟩

end Go.Proofs.Ythekledcoeeheaa.P
namespace Go.Proofs.Ythekledcoeeheaa.P
open Go.RowKit Go.Proofs.YthekledcoeeheaaW.PrintWords Go.Proofs.YthekledcoeeheaaW.PrintLast Go.Proofs.YthekledcoeeheaaW.PrintMore Go.Sort
variable {α : Type} [Inhabited α] {d : Kd α} {enc : α → List Value} {e base g cap n : Nat} {ok ok' : Nat → Prop} {w w' : World} {v : Value} {xs ys : List α} {cur : Array Value}

theorem getElem!_toArray_of (xs : List α) (i : Nat) (h : i < xs.length) : xs.toArray[i]! = xs[i] := by
  rw [getElem!_pos xs.toArray i (by simpa using h)]
  simp
theorem getElem!_list (l : List Value) (i : Nat) (h : i < l.length) : l[i]! = l[i] := getElem!_pos l i h

/-- A row of the call's own whose elements lead to nothing: as the sort's contracts want it. -/
theorem bridge_down (hflat : ∀ {w : World} {base : Nat} {ok : Nat → Prop} {x : α} {cs : List Value}, d.M w base ok x cs → cs = enc x) (hk : ∀ x, (enc x).length = d.sz) (hpos : 0 < d.sz) (h : d.R e w base ok v xs) :
    (v = .slice none 0 0 ∧ xs = []) ∨ ∃ g cap cur, v = .slice (some ⟨g, 0, none⟩) xs.length cap ∧ base ≤ g ∧ w.heap[g]? = some (.cells cur e (0, 0)) ∧ xs.length ≤ cap ∧ cap ≤ maxLen ∧ cur.size = cap * d.sz ∧ ok g ∧ HoldsK enc d.sz w g 0 xs.toArray := by
  obtain ⟨h0, inner, ⟨hlen, hv⟩, hreps⟩ := h
  rcases hv with ⟨hv, hn⟩ | ⟨g, cap, cur, rfl, hg, hb, hnc, hcm, hcs, htake⟩
  · exact .inl ⟨hv, List.length_eq_zero_iff.1 hn⟩
  · refine .inr ⟨g, cap, cur, rfl, hg, hb, hnc, hcm, hcs, h0 g rfl, ?_⟩
    intro j hj
    rw [size_flatK, List.size_toArray] at hj
    rw [Nat.zero_add]
    refine ⟨?_, blk_frozen hb j⟩
    rw [blk_cell hb j, id, get_flatK enc d.sz xs.toArray j (by simpa using hj)]
    have hq : j / d.sz < xs.length := Nat.div_lt_of_lt_mul (by rw [Nat.mul_comm]; exact hj)
    rw [getElem!_toArray_of xs _ hq]
    have hr := hflat (hreps.2 (j / d.sz) xs[j / d.sz] (List.getElem?_eq_getElem hq))
    have hm : j % d.sz < d.sz := Nat.mod_lt _ hpos
    rw [getElem!_list _ _ (by rw [hk]; exact hm)]
    have e1 : (enc xs[j / d.sz])[j % d.sz]? = cur[j]? := by
      rw [← hr, List.getElem?_take_of_lt hm, List.getElem?_drop]
      have hjj : j / d.sz * d.sz + j % d.sz = j := Nat.div_add_mod' j d.sz
      rw [hjj, ← htake, List.getElem?_take_of_lt hj]
      simp
    rw [← e1]
    exact List.getElem?_eq_getElem (by rw [hk]; exact hm)

/-- What stands in a world of the sort's. -/
theorem sortWorld_heap (w : World) (g m : Nat) (D : Array α) (os : Array Obj) (hb : w.heap[g]? = some (.cells cur e (0, 0))) :
    (grow (putRowK enc d.sz (Sort.ahead w m) g 0 D) os).heap[g]? = some (.cells (putCells id 0 (flatK enc d.sz D) cur) e (0, 0)) ∧
    (∀ k, k < w.heap.size → k ≠ g → (grow (putRowK enc d.sz (Sort.ahead w m) g 0 D) os).heap[k]? = w.heap[k]?) ∧ w.heap.size ≤ (grow (putRowK enc d.sz (Sort.ahead w m) g 0 D) os).heap.size := by
  have hg := blk_lt hb
  have hsz : (putRowK enc d.sz (Sort.ahead w m) g 0 D).heap.size = w.heap.size := by
    unfold putRowK
    rw [size_putRow]
    rfl
  have hlt : ∀ k : Nat, k < w.heap.size → (grow (putRowK enc d.sz (Sort.ahead w m) g 0 D) os).heap[k]? = (putRowK enc d.sz (Sort.ahead w m) g 0 D).heap[k]? := fun k hk => by
    unfold grow
    exact Array.getElem?_append_left (by rw [hsz]; exact hk)
  have hmod : ∀ k : Nat, (putRowK enc d.sz (Sort.ahead w m) g 0 D).heap[k]? = (w.heap.modify g (onCells (putCells id 0 (flatK enc d.sz D))))[k]? := fun k => rfl
  refine ⟨?_, ?_, ?_⟩
  · rw [hlt g hg, hmod, Array.getElem?_modify, if_pos rfl, hb]
    rfl
  · intro k hk hne
    rw [hlt k hk, hmod, Array.getElem?_modify, if_neg (fun h => hne h.symm)]
  · unfold grow
    rw [Array.size_append, hsz]
    omega

theorem take_putCellsK (hk : ∀ x, (enc x).length = d.sz) (hpos : 0 < d.sz) (hc : ys.length * d.sz ≤ cur.size) :
    ((putCells id 0 (flatK enc d.sz ys.toArray) cur).toList.take (ys.length * d.sz)).length = ys.length * d.sz ∧
    ∀ j p, ys[j]? = some p → ((((putCells id 0 (flatK enc d.sz ys.toArray) cur).toList.take (ys.length * d.sz)).drop (j * d.sz)).take d.sz) = enc p := by
  have hs : (putCells id 0 (flatK enc d.sz ys.toArray) cur).size = cur.size := by simp [putCells]
  have hs2 : (putCells id 0 (flatK enc d.sz ys.toArray) cur).toList.length = cur.size := by rw [Array.length_toList]; exact hs
  refine ⟨by rw [List.length_take, hs2]; omega, ?_⟩
  intro j p hp
  obtain ⟨hj, rfl⟩ := List.getElem?_eq_some_iff.1 hp
  have hjk : j * d.sz + d.sz ≤ ys.length * d.sz := by rw [← Nat.succ_mul]; exact Nat.mul_le_mul_right _ hj
  apply List.ext_getElem?
  intro i
  by_cases hi : i < d.sz
  · rw [List.getElem?_take_of_lt hi, List.getElem?_drop, List.getElem?_take_of_lt (by omega)]
    have ht : j * d.sz + i < ys.length * d.sz := by omega
    rw [Array.getElem?_toList]
    unfold putCells
    rw [Array.getElem?_mapIdx, Array.getElem?_eq_getElem (show j * d.sz + i < cur.size by omega), Option.map_some, if_pos ⟨Nat.zero_le _, by rw [size_flatK]; simpa using ht⟩, Nat.sub_zero, id,
      get_flatK enc d.sz ys.toArray _ (by simpa using ht)]
    have e1 : (j * d.sz + i) / d.sz = j := by rw [Nat.mul_comm, Nat.mul_add_div hpos, Nat.div_eq_of_lt hi, Nat.add_zero]
    have e2 : (j * d.sz + i) % d.sz = i := by rw [Nat.mul_comm, Nat.mul_add_mod, Nat.mod_eq_of_lt hi]
    rw [e1, e2, getElem!_toArray_of ys j hj, getElem!_list _ _ (by rw [hk]; exact hi), List.getElem?_eq_getElem (by rw [hk]; exact hi)]
  · rw [List.getElem?_eq_none (by rw [List.length_take]; omega), List.getElem?_eq_none (by rw [hk]; omega)]

/-- .. and back: what a call says that wrote the row alone, and laid blocks. -/
theorem bridge_up (hmk : ∀ (w : World) (base : Nat) (ok : Nat → Prop) (x : α), d.M w base ok x (enc x)) (hk : ∀ x, (enc x).length = d.sz) (hpos : 0 < d.sz) {W0 : World} (hB : Below W0.heap.size W0 w) (hbase : W0.heap.size ≤ g)
    (hb : w.heap[g]? = some (.cells cur e (0, 0))) (hlen : ys.length = n) (hnc : n ≤ cap) (hcm : cap ≤ maxLen) (hcs : cur.size = cap * d.sz) (hok : ok g) (m : Nat) (os : Array Obj) :
    d.R e (grow (putRowK enc d.sz (Sort.ahead w m) g 0 ys.toArray) os) W0.heap.size (fun k_ => ok k_ ∨ w.heap.size ≤ k_) (.slice (some ⟨g, 0, none⟩) n cap) ys ∧
    Below W0.heap.size W0 (grow (putRowK enc d.sz (Sort.ahead w m) g 0 ys.toArray) os) ∧ Kept w (grow (putRowK enc d.sz (Sort.ahead w m) g 0 ys.toArray) os) ok := by
  obtain ⟨h1, h2, h3⟩ := sortWorld_heap (d := d) (enc := enc) w g m ys.toArray os hb
  subst hlen
  have hmul : ys.length * d.sz ≤ cap * d.sz := Nat.mul_le_mul_right _ hnc
  obtain ⟨t1, t2⟩ := take_putCellsK (d := d) (enc := enc) (ys := ys) (cur := cur) hk hpos (by omega)
  refine ⟨⟨?_, _, ⟨t1, .inr ⟨g, cap, _, rfl, hbase, h1, hnc, hcm, by simp [putCells, hcs], rfl⟩⟩, t1, ?_⟩, ⟨hB.os, hB.tape, hB.output, Nat.le_trans hB.size h3, ?_⟩, h3, ?_⟩
  · intro k hk'
    have : g = k := by simpa [Value.ownBlock] using hk'
    exact .inl (this ▸ hok)
  · intro j p hp
    rw [t2 j p hp]
    exact hmk _ _ _ _
  · intro k hk'
    rw [h2 k (Nat.lt_of_lt_of_le hk' hB.size) (by omega)]
    exact hB.block k hk'
  · intro k hk' hn
    exact h2 k hk' (fun he => hn (he ▸ hok))
end Go.Proofs.Ythekledcoeeheaa.P
namespace Go.Proofs.Ythekledcoeeheaa.P
open Go.RowKit Go.Proofs.YthekledcoeeheaaW.PrintWords Go.Proofs.YthekledcoeeheaaW.PrintLast Go.Proofs.YthekledcoeeheaaW.PrintMore Go.Sort Go.Shelf Go.Lib
def lay_Compact_ren : Go.Shelf.Ren := ⟨fun | 43 => 60 | n => n, fun | 22 => 36 | 23 => 33 | 3 => 3 | 4 => 4 | 0 => 0 | n => n, fun n => n⟩
theorem lay_Compact : SlLaysE.n43 Try.prog lay_Compact_ren := {
  mixed := by kernel_rfl,
  f43 := ⟨Try.f60.name, by decide, Try.func60.trans (congrArg some (by kernel_rfl))⟩,
  t0 := Try.underlying0,
  a0 := Try.isAgg0,
  z0 := Try.sizeOf0,
  v0 := Try.zeroValue0,
  t3 := Try.underlying3,
  a3 := Try.isAgg3,
  z3 := Try.sizeOf3,
  v3 := Try.zeroValue3,
  t4 := Try.underlying4,
  a4 := Try.isAgg4,
  z4 := Try.sizeOf4,
  v4 := Try.zeroValue4,
  t22 := Try.underlying36,
  a22 := Try.isAgg36,
  z22 := Try.sizeOf36,
  v22 := Try.zeroValue36,
  a23 := Try.isAgg33,
  z23 := Try.sizeOf33 }
section
variable {α : Type} [Inhabited α]
theorem flat_one (enc : α → Value) (d : Array α) (i : Nat) (h : i < d.size) : (flatK (fun x => [enc x]) 1 d)[i]! = enc d[i]! := by
  rw [get_flatK _ _ _ _ (by omega), Nat.div_one, Nat.mod_one]
  rfl
theorem holds_one (enc : α → Value) (w : World) (blk off : Nat) (d : Array α) (h : HoldsK (fun x => [enc x]) 1 w blk off d) : Holds enc w blk off d := fun j hj => by
  have := h j (by rw [size_flatK]; omega)
  rw [flat_one enc d j hj] at this
  exact this
theorem putRow_one (enc : α → Value) (w : World) (blk off : Nat) (d : Array α) : putRow enc w blk off d = putRowK (fun x => [enc x]) 1 w blk off d := by
  unfold putRowK putRow
  refine mapBlock_congr w blk _ _ (fun c e fr _ => ?_)
  unfold putCells
  apply Array.ext_getElem?
  intro i
  rw [Array.getElem?_mapIdx, Array.getElem?_mapIdx, size_flatK, Nat.mul_one]
  cases c[i]? with
  | none => rfl
  | some x =>
    simp only [Option.map_some]
    by_cases hi : off ≤ i ∧ i < off + d.size
    · rw [if_pos hi, if_pos hi, flat_one enc d (i - off) (by omega)]
      rfl
    · rw [if_neg hi, if_neg hi]
end
def Compact_u32.f (l0 : List Int) : Option (List Int) := if l0.length ≤ 9223372036854775807 then some (Go.Lib.compactUpTo l0.toArray l0.length) else none
theorem compact_le (l : List Int) : (Go.Lib.compactUpTo l.toArray l.length).length ≤ l.length := by
  unfold Go.Lib.compactUpTo
  rw [List.length_map]
  exact Nat.le_trans (List.length_filter_le _ _) (by simp)
theorem Compact_u32.calls (P0_ : Nat → Prop) (u9000_ : Value) (l0 : List Int) (r : List Int) (w0 w : World) (hB : Below w0.heap.size w0 w) (ho0 : Kd.R (Kd.int .u32) 33 w w0.heap.size P0_ u9000_ l0) (h : Compact_u32.f l0 = some r) :
    Calls Try.prog 60 #[u9000_] w fun e w' => ∃ v0_ : Value, e = .returned (v0_) ∧ Kd.R (Kd.int .u32) 33 w' w0.heap.size (fun k_ => (P0_ k_ ∨ w.heap.size ≤ k_)) v0_ r ∧ Below w0.heap.size w0 w' ∧ Kept w w' (fun k_ => P0_ k_) := by
  unfold Compact_u32.f at h
  by_cases hsz : l0.length ≤ 9223372036854775807
  · rw [if_pos hsz] at h
    have hr := Option.some.inj h
    clear h
    rcases bridge_down (d := Kd.int .u32) (enc := fun x : Int => [.int .u32 x]) (fun h => h) (fun _ => rfl) (by decide) ho0 with ⟨rfl, rfl⟩ | ⟨g, cap, cur, rfl, hbase, hb, hnc, hcm, hcs, hok, hH⟩
    · have hrn : r = [] := by
        have := compact_le []
        rw [hr] at this
        exact List.length_eq_zero_iff.1 (by simpa using this)
      subst hrn
      clear hr hsz
      have HO := Go.Lib.hid ho0
      clear ho0
      go_enter Try.func60, Try.ntmps60
      go_wp2
      go_ret
      exact ⟨_, rfl, Kd.R_nil _ _ _ _ _, hB, Kept.refl _ _⟩
    · have hcon := AnyE.slices_Compact lay_Compact (Value.int .u32) (fun _ => rfl) (EqlAt.intD _ _ .u32) (NeqAt.intD _ _ .u32) 0 Try.zeroValue33 g 0 cap l0.toArray w (holds_one _ _ _ _ _ hH) (by simpa using hsz) (by simpa using hnc)
      refine (show Calls Try.prog 60 _ _ _ from hcon).mono ?_
      rintro e w' ⟨rfl, q, rfl⟩
      have hcl := compact_le l0
      have hcu : Go.Lib.compactUpTo l0.toArray l0.toArray.size = r := by rw [← hr]; simp
      rw [hcu]
      rw [hr] at hcl
      have hyl : (r ++ List.replicate (l0.toArray.size - r.length) (0 : Int)).length = l0.length := by simp; omega
      have hup := bridge_up (d := Kd.int .u32) (enc := fun x : Int => [.int .u32 x]) (ys := r ++ List.replicate (l0.toArray.size - r.length) (0 : Int)) (fun _ _ _ _ => rfl) (fun _ => rfl) (by decide) hB hbase hb hyl hnc hcm hcs hok q #[]
      rw [grow_empty, show (Kd.int .u32).sz = 1 from rfl, ← putRow_one] at hup
      refine ⟨_, rfl, ?_, hup.2⟩
      have := Kd.R_take (m := r.length) hup.1 (by simp)
      rw [List.take_left] at this
      exact this
  · rw [if_neg hsz] at h
    exact absurd h (by simp)
end Go.Proofs.Ythekledcoeeheaa.P
namespace Go.Proofs.Ythekledcoeeheaa.P
open Go.RowKit Go.Sort Go.Shelf Go.Lib
/-! Go's own sort at uint32: words of every walk. -/
theorem nan_u32 (x : Int) (w : World) : Calls Try.prog 77 #[.int .u32 x] w fun e w' => e = .returned (.bool false) ∧ w' = w := by
  go_enter Try.func77, Try.ntmps77
  go_wp2
  go_ret
  exact ⟨by simp, rfl⟩
theorem less_u32 (x y : Int) (w : World) : Calls Try.prog 97 #[.int .u32 x, .int .u32 y] w fun e w' => e = .returned (.bool (ltInt x y)) ∧ w' = w := by
  go_enter Try.func97, Try.ntmps97
  go_wp2_with (go_at_call 77; refine (nan_u32 _ _).mono ?_; rintro e w' ⟨rfl, rfl⟩)
  go_ret
  exact ⟨rfl, rfl⟩
/-- A row of a world of the sort's, its places under one name. -/
theorem row_facts {w0 W : World} {blk off : Nat} {d0 dk : Array Int} (S : SW (.int .u32) w0 blk off dk W) (R : Row1 (.int .u32) w0 blk off d0) (hs : dk.size = d0.size) :
    ∃ G : Nat → Int, Hid (∀ t, G t = dk[t]!) ∧ (∀ t, t < d0.size → W.cell? ⟨blk, off + t, none⟩ = some (.int .u32 (G t))) ∧ ∀ t, t < d0.size → W.frozen? ⟨blk, off + t, none⟩ = false :=
  ⟨fun t => dk[t]!, fun _ => rfl, fun t ht => S.c1 R hs t (by omega), fun t ht => S.f1 R hs t (by omega)⟩
theorem row_u32 {w : World} {blk off : Nat} {d : Array Int} (h : Holds (.int .u32) w blk off d) (hb : blk < w.heap.size) : Row1 (.int .u32) w blk off d := ⟨fun _ => rfl, h, hb⟩
set_option maxHeartbeats 4000000 in
set_option maxRecDepth 100000 in
theorem reverse_u32 (blk off cap a b : Nat) (d0 d : Array Int) (w0 w : World) (R : Row1 (.int .u32) w0 blk off d0) (hs : d.size = d0.size) (S : SW (.int .u32) w0 blk off d w) (hab : a < b) (hb : b ≤ d0.size) (hsz : d0.size < 4611686018427387904) :
    Calls Try.prog 95 #[.slice (some ⟨blk, off, none⟩) d0.size cap, .int .i64 a, .int .i64 b] w fun e w' => e = .returned (.tuple #[]) ∧ SW (.int .u32) w0 blk off (reverseRange d a b) w' := by
  have S0 : Hid (SW (.int .u32) w0 blk off d w) := S
  clear S
  go_enter Try.func95, Try.ntmps95
  go_wp2
  go_loopw [6, 7] (fun vi vj wr => ∃ (i j : Nat) (dk : Array Int), vi = .int .i64 i ∧ vj = .int .i64 j ∧ i ≤ j + 1 ∧ j < b ∧ dk.size = d0.size ∧ Hid (SW (.int .u32) w0 blk off dk wr) ∧ Hid (reverseLoop i j dk = reverseLoop a (b - 1) d))
    (fun vi vj _ => (intOf vj).toNat + 1 - (intOf vi).toNat)
  case atStart => exact ⟨a, b - 1, d, rfl, by congr 1; omega, by omega, by omega, hs, S0, rfl⟩
  case round =>
    clear S0 hs
    obtain ⟨i, j, dk, rfl, rfl, hij, hjb, hds, S1, H⟩ := hrel
    by_cases hlt : i < j
    · obtain ⟨G, hG, hc, hf⟩ := row_facts S1.out R hds
      obtain ⟨u, hu⟩ := S1.out.c2 R hds i j (by omega) (by omega) (.int .u32 (G j))
      go_wp2_with fail
      go_region
      all_goals go_wp2
      go_roundw
      case rel =>
        refine ⟨i + 1, j - 1, swp dk i j, by go_num, by go_num, by omega, by omega, by rw [size_swp]; exact hds, ?_, ?_⟩
        · have := S1.out.swapped R i j (by omega) (by omega)
          rw [← hG.out i, ← hG.out j] at this
          exact this
        · have := H.out
          rw [reverseLoop, if_pos hlt] at this
          exact this
      case measure => simp [intOf]; omega
    · go_wp2
      go_end0
      refine ⟨rfl, ?_⟩
      have := H.out
      rw [reverseLoop, if_neg hlt] at this
      rw [reverseRange, ← this]
      exact S1.out
theorem insInner_end (a j : Nat) (d : Array Int) (h : ¬ a < j ∨ ltInt d[j]! d[j - 1]! = false) : insInner ltInt a j d = d := by
  cases j with
  | zero => rfl
  | succ k =>
    rw [insInner, if_neg]
    rcases h with h | h
    · simp; omega
    · simp only [Nat.add_sub_cancel] at h; simp [h]
set_option maxHeartbeats 4000000 in
set_option maxRecDepth 100000 in
theorem insertion_u32 (blk off cap a b : Nat) (d0 d : Array Int) (w0 w : World) (R : Row1 (.int .u32) w0 blk off d0) (hs : d.size = d0.size) (S : SW (.int .u32) w0 blk off d w) (hb : b ≤ d0.size) (hsz : d0.size < 4611686018427387904) (ha : a < 4611686018427387904) :
    Calls Try.prog 91 #[.slice (some ⟨blk, off, none⟩) d0.size cap, .int .i64 a, .int .i64 b] w fun e w' => e = .returned (.tuple #[]) ∧ SW (.int .u32) w0 blk off (insertionSort ltInt d a b) w' := by
  have S0 : Hid (SW (.int .u32) w0 blk off d w) := S
  clear S
  go_enter Try.func91, Try.ntmps91
  go_wp2
  go_loopw [6, 7] (fun vi v7 wr => ∃ (i : Nat) (dk : Array Int), vi = .int .i64 i ∧ a + 1 ≤ i ∧ (i ≤ a + 1 ∨ i ≤ b) ∧ dk.size = d0.size ∧ Hid (SW (.int .u32) w0 blk off dk wr) ∧ Hid (insOuter ltInt a b i dk = insOuter ltInt a b (a + 1) d))
    (fun vi v7 _ => b - (intOf vi).toNat)
  case atStart => exact ⟨a + 1, d, by go_num, Nat.le_refl _, .inl (Nat.le_refl _), hs, S0, rfl⟩
  case round =>
    clear S0 hs
    obtain ⟨i, dk, rfl, hai, hia, hds, S1, H⟩ := hrel
    by_cases hib : i < b
    · go_wp2
      go_loopw [7] (fun vj wr => ∃ (j : Nat) (dj : Array Int), vj = .int .i64 j ∧ a ≤ j ∧ j ≤ i ∧ dj.size = d0.size ∧ Hid (SW (.int .u32) w0 blk off dj wr) ∧ Hid (insInner ltInt a j dj = insInner ltInt a i dk))
        (fun vj _ => (intOf vj).toNat)
      case atStart => exact ⟨i, dk, rfl, by omega, Nat.le_refl _, hds, S1, rfl⟩
      case round =>
        clear S1 hds
        obtain ⟨j, dj, rfl, haj, hji, hdj, S2, H2⟩ := hrel
        obtain ⟨G, hG, hc, hf⟩ := row_facts S2.out R hdj
        by_cases hja : a < j
        · obtain ⟨k, hk⟩ : ∃ k, j = k + 1 := ⟨j - 1, by omega⟩
          obtain ⟨u, hu⟩ := S2.out.c2 R hdj j k (by omega) (by omega) (.int .u32 (G k))
          have ez : (j : Int) - 1 = (k : Int) := by omega
          have hkl : k < d0.size := by omega
          have hjl : j < d0.size := by omega
          have HK : Hid (j = k + 1) := hk
          clear hk
          go_wp2_with fail
          go_big_quiet (first | (go_at_call 97; refine Calls.quiet_of_same (less_u32 _ _ _)))
          go_wp2
          · have ht : ltInt (G j) (G k) = true := by assumption
            go_region
            all_goals go_wp2
            go_roundw
            case rel =>
              have hk := HK.out
              refine ⟨k, swp dj j k, rfl, by omega, by omega, by rw [size_swp]; exact hdj, ?_, ?_⟩
              · have := (S2.out.drewN nq).swapped R j k (by omega) (by omega)
                rw [← hG.out j, ← hG.out k] at this
                exact this
              · rw [← H2.out]
                rw [hG.out j, hG.out k, hk] at ht
                rw [hk, insInner, if_pos (by rw [ht]; simp; omega)]
                exact rfl
            case measure => have hk := HK.out; simp [intOf]; omega
          · have ht : ltInt (G j) (G k) = false := by assumption
            have e := insInner_end a j dj (.inr (by rw [show j - 1 = k from by have := HK.out; omega, ← hG.out j, ← hG.out k]; exact ht))
            go_roundw
            case rel =>
              refine ⟨i + 1, dj, by go_num, by omega, .inr (by omega), hdj, S2.out.drewN nq, ?_⟩
              have h := H.out
              rw [insOuter, if_pos hib, ← H2.out, e] at h
              exact h
            case measure => simp [intOf]; omega
        · have e := insInner_end a j dj (.inl hja)
          go_wp2_with fail
          go_big_quiet (fail)
          go_wp2
          go_roundw
          case rel =>
            refine ⟨i + 1, dj, by go_num, by omega, .inr (by omega), hdj, S2.out.drewN nq, ?_⟩
            have h := H.out
            rw [insOuter, if_pos hib, ← H2.out, e] at h
            exact h
          case measure => simp [intOf]; omega
    · go_wp2
      go_end0
      refine ⟨rfl, ?_⟩
      have h := H.out
      rw [insOuter, if_neg hib] at h
      rw [insertionSort, ← h]
      exact S1.out
theorem sift_stop (hi F root : Nat) (d : Array Int) (h : hi ≤ 2 * root + 1) : siftDown ltInt hi F root d = d := by rw [siftDown, dif_pos h]
theorem sift_left (hi F root : Nat) (d : Array Int) (h : 2 * root + 1 < hi) (hc : ¬ 2 * root + 1 + 1 < hi ∨ ltInt d[F + (2 * root + 1)]! d[F + (2 * root + 1) + 1]! = false) :
    siftDown ltInt hi F root d = if ltInt d[F + root]! d[F + (2 * root + 1)]! = false then d else siftDown ltInt hi F (2 * root + 1) (swp d (F + root) (F + (2 * root + 1))) := by
  rw [siftDown, dif_neg (by omega), if_neg (by rcases hc with hc | hc <;> simp [hc])]
  cases ltInt d[F + root]! d[F + (2 * root + 1)]! <;> rfl
theorem sift_right (hi F root : Nat) (d : Array Int) (h : 2 * root + 1 + 1 < hi) (hc : ltInt d[F + (2 * root + 1)]! d[F + (2 * root + 1) + 1]! = true) :
    siftDown ltInt hi F root d = if ltInt d[F + root]! d[F + (2 * root + 2)]! = false then d else siftDown ltInt hi F (2 * root + 2) (swp d (F + root) (F + (2 * root + 2))) := by
  rw [siftDown, dif_neg (by omega), if_pos (by simp [hc, h]), dif_pos (by omega)]
  cases ltInt d[F + root]! d[F + (2 * root + 2)]! <;> rfl
set_option maxHeartbeats 8000000 in
set_option maxRecDepth 100000 in
theorem sift_u32 (blk off cap lo hi F : Nat) (d0 d : Array Int) (w0 w : World) (R : Row1 (.int .u32) w0 blk off d0) (hs : d.size = d0.size) (S : SW (.int .u32) w0 blk off d w) (hF : F + hi ≤ d0.size) (hlo : lo ≤ d0.size) (hsz : d0.size < 4611686018427387904) :
    Calls Try.prog 121 #[.slice (some ⟨blk, off, none⟩) d0.size cap, .int .i64 lo, .int .i64 hi, .int .i64 F] w fun e w' => e = .returned (.tuple #[]) ∧ SW (.int .u32) w0 blk off (siftDown ltInt hi F lo d) w' := by
  have S0 : Hid (SW (.int .u32) w0 blk off d w) := S
  clear S
  go_enter Try.func121, Try.ntmps121
  go_wp2
  go_loopw [8, 9] (fun vi v9 wr => ∃ (root : Nat) (dk : Array Int), vi = .int .i64 root ∧ root ≤ d0.size ∧ dk.size = d0.size ∧ Hid (SW (.int .u32) w0 blk off dk wr) ∧ Hid (siftDown ltInt hi F root dk = siftDown ltInt hi F lo d))
    (fun vi v9 _ => hi - (intOf vi).toNat)
  case atStart => exact ⟨lo, d, rfl, hlo, hs, S0, rfl⟩
  case round =>
    clear S0 hs
    obtain ⟨root, dk, rfl, hrl0, hds, S1, H⟩ := hrel
    obtain ⟨c, hc0⟩ : ∃ c, c = 2 * root + 1 := ⟨_, rfl⟩
    have ez : 2 * (root : Int) + 1 = (c : Int) := by omega
    have HC : Hid (c = 2 * root + 1) := hc0
    by_cases h1 : c < hi
    · obtain ⟨G, hG, hc, hf⟩ := row_facts S1.out R hds
      obtain ⟨p, hp⟩ : ∃ p, p = F + c := ⟨_, rfl⟩
      obtain ⟨q, hq⟩ : ∃ q, q = p + 1 := ⟨_, rfl⟩
      have ep : (F : Int) + (c : Int) = (p : Int) := by omega
      have eq1 : (p : Int) + 1 = (q : Int) := by omega
      have hpl : p < d0.size := by omega
      obtain ⟨c2, hc2⟩ : ∃ c2, c2 = c + 1 := ⟨_, rfl⟩
      have ez2 : (c : Int) + 1 = (c2 : Int) := by omega
      have HP : Hid (p = F + c) := hp
      have HQ : Hid (q = p + 1) := hq
      have HC2 : Hid (c2 = c + 1) := hc2
      by_cases h2 : c2 < hi
      · have hql : q < d0.size := by omega
        clear hc0 hp hq hc2
        go_wp2_with fail
        go_big_quiet (first | (go_at_call 97; refine Calls.quiet_of_same (less_u32 _ _ _)))
        go_wp2
        · have ht : ltInt (G p) (G q) = true := by assumption
          have Hch : Hid (c2 = 2 * root + 2 ∧ F + c2 < d0.size + 0 ∧ root < c2 ∧ c2 < hi) := by have := HC.out; have := HC2.out; exact ⟨by omega, by omega, by omega, h2⟩
          have Hst : Hid (siftDown ltInt hi F root dk = if ltInt dk[F + root]! dk[F + c2]! = false then dk else siftDown ltInt hi F c2 (swp dk (F + root) (F + c2))) := by
            have a1 := HC.out; have a2 := HC2.out; have a3 := HP.out; have a4 := HQ.out
            rw [hG.out p, hG.out q, a4, a3, a1] at ht
            rw [a2, a1]
            exact sift_right hi F root dk (by omega) ht
          have hb1 : F + c2 < d0.size ∧ root < c2 := ⟨by have := Hch.out; omega, Hch.out.2.2.1⟩
          have hb2 := hb1.1
          have hb3 := hb1.2
          clear hb1 ht
          have S2 : Hid (SW (.int .u32) w0 blk off dk (wr.drewN nq)) := S1.out.drewN nq
          clear hc hf hG S1 ep eq1
          generalize wr.drewN nq = w2 at S2 ⊢
          obtain ⟨G2, hG2, hc2, hf2⟩ := row_facts S2.out R hds
          obtain ⟨rp, hrp⟩ : ∃ rp, rp = F + root := ⟨_, rfl⟩
          obtain ⟨cp, hcp⟩ : ∃ cp, cp = F + c2 := ⟨_, rfl⟩
          have er : (F : Int) + (root : Int) = (rp : Int) := by omega
          have ec : (F : Int) + (c2 : Int) = (cp : Int) := by omega
          have hrl : rp < d0.size := by omega
          have hcl : cp < d0.size := by omega
          have hrc : rp ≠ cp := by omega
          have HRP : Hid (rp = F + root) := hrp
          have HCP : Hid (cp = F + c2) := hcp
          clear hrp hcp
          obtain ⟨u, hu⟩ := S2.out.c2 R hds rp cp (by omega) (by omega) (.int .u32 (G2 cp))
          go_wp2_with fail
          go_big_quiet (first | (go_at_call 97; refine Calls.quiet_of_same (less_u32 _ _ _)))
          go_wp2
          · have ht : ltInt (G2 rp) (G2 cp) = false := by simp_all
            refine bodyPost_ret (results_none rfl _ _ _) rfl ?_
            refine ⟨rfl, ?_⟩
            have e := Hst.out
            rw [← HRP.out, ← HCP.out, ← hG2.out rp, ← hG2.out cp, ht, if_pos rfl] at e
            rw [← H.out, e]
            exact S2.out.drewN nq
          · have ht : ltInt (G2 rp) (G2 cp) = true := by simp_all
            go_region
            all_goals go_wp2
            go_roundw
            case rel =>
              have h3 := Hch.out
              refine ⟨c2, swp dk rp cp, rfl, by omega, by rw [size_swp]; exact hds, ?_, ?_⟩
              · have := (S2.out.drewN nq).swapped R rp cp (by omega) (by omega)
                rw [← hG2.out rp, ← hG2.out cp] at this
                exact this
              · have e := Hst.out
                rw [← HRP.out, ← HCP.out, ← hG2.out rp, ← hG2.out cp, ht, if_neg (by simp)] at e
                rw [← H.out, e]
                exact rfl
            case measure => have h3 := Hch.out; simp [intOf]; omega
        · have ht : ltInt (G p) (G q) = false := by assumption
          have Hch : Hid (c = 2 * root + 1 ∧ F + c < d0.size + 0 ∧ root < c ∧ c < hi) := by have := HC.out; exact ⟨by omega, by omega, by omega, h1⟩
          have Hst : Hid (siftDown ltInt hi F root dk = if ltInt dk[F + root]! dk[F + c]! = false then dk else siftDown ltInt hi F c (swp dk (F + root) (F + c))) := by
            have a1 := HC.out; have a2 := HC2.out; have a3 := HP.out; have a4 := HQ.out
            rw [hG.out p, hG.out q, a4, a3, a1] at ht
            rw [a1]
            exact sift_left hi F root dk (by omega) (.inr ht)
          have hb1 : F + c < d0.size ∧ root < c := ⟨by have := Hch.out; omega, Hch.out.2.2.1⟩
          have hb2 := hb1.1
          have hb3 := hb1.2
          clear hb1 ht
          have S2 : Hid (SW (.int .u32) w0 blk off dk (wr.drewN nq)) := S1.out.drewN nq
          clear hc hf hG S1 ep eq1
          generalize wr.drewN nq = w2 at S2 ⊢
          obtain ⟨G2, hG2, hc2, hf2⟩ := row_facts S2.out R hds
          obtain ⟨rp, hrp⟩ : ∃ rp, rp = F + root := ⟨_, rfl⟩
          obtain ⟨cp, hcp⟩ : ∃ cp, cp = F + c := ⟨_, rfl⟩
          have er : (F : Int) + (root : Int) = (rp : Int) := by omega
          have ec : (F : Int) + (c : Int) = (cp : Int) := by omega
          have hrl : rp < d0.size := by omega
          have hcl : cp < d0.size := by omega
          have hrc : rp ≠ cp := by omega
          have HRP : Hid (rp = F + root) := hrp
          have HCP : Hid (cp = F + c) := hcp
          clear hrp hcp
          obtain ⟨u, hu⟩ := S2.out.c2 R hds rp cp (by omega) (by omega) (.int .u32 (G2 cp))
          go_wp2_with fail
          go_big_quiet (first | (go_at_call 97; refine Calls.quiet_of_same (less_u32 _ _ _)))
          go_wp2
          · have ht : ltInt (G2 rp) (G2 cp) = false := by simp_all
            refine bodyPost_ret (results_none rfl _ _ _) rfl ?_
            refine ⟨rfl, ?_⟩
            have e := Hst.out
            rw [← HRP.out, ← HCP.out, ← hG2.out rp, ← hG2.out cp, ht, if_pos rfl] at e
            rw [← H.out, e]
            exact S2.out.drewN nq
          · have ht : ltInt (G2 rp) (G2 cp) = true := by simp_all
            go_region
            all_goals go_wp2
            go_roundw
            case rel =>
              have h3 := Hch.out
              refine ⟨c, swp dk rp cp, rfl, by omega, by rw [size_swp]; exact hds, ?_, ?_⟩
              · have := (S2.out.drewN nq).swapped R rp cp (by omega) (by omega)
                rw [← hG2.out rp, ← hG2.out cp] at this
                exact this
              · have e := Hst.out
                rw [← HRP.out, ← HCP.out, ← hG2.out rp, ← hG2.out cp, ht, if_neg (by simp)] at e
                rw [← H.out, e]
                exact rfl
            case measure => have h3 := Hch.out; simp [intOf]; omega
      · clear hc0 hp hq hc2
        go_wp2_with fail
        go_big_quiet (fail)
        go_wp2
        have Hch : Hid (c = 2 * root + 1 ∧ F + c < d0.size + 0 ∧ root < c ∧ c < hi) := by have := HC.out; exact ⟨by omega, by omega, by omega, h1⟩
        have Hst : Hid (siftDown ltInt hi F root dk = if ltInt dk[F + root]! dk[F + c]! = false then dk else siftDown ltInt hi F c (swp dk (F + root) (F + c))) := by
          have a1 := HC.out; have a2 := HC2.out
          rw [a1]
          exact sift_left hi F root dk (by omega) (.inl (by omega))
        have hb1 : F + c < d0.size ∧ root < c := ⟨by have := Hch.out; omega, Hch.out.2.2.1⟩
        have hb2 := hb1.1
        have hb3 := hb1.2
        clear hb1
        have S2 : Hid (SW (.int .u32) w0 blk off dk (wr.drewN nq)) := S1.out.drewN nq
        clear hc hf hG S1 ep eq1
        generalize wr.drewN nq = w2 at S2 ⊢
        obtain ⟨G2, hG2, hc2, hf2⟩ := row_facts S2.out R hds
        obtain ⟨rp, hrp⟩ : ∃ rp, rp = F + root := ⟨_, rfl⟩
        obtain ⟨cp, hcp⟩ : ∃ cp, cp = F + c := ⟨_, rfl⟩
        have er : (F : Int) + (root : Int) = (rp : Int) := by omega
        have ec : (F : Int) + (c : Int) = (cp : Int) := by omega
        have hrl : rp < d0.size := by omega
        have hcl : cp < d0.size := by omega
        have hrc : rp ≠ cp := by omega
        have HRP : Hid (rp = F + root) := hrp
        have HCP : Hid (cp = F + c) := hcp
        clear hrp hcp
        obtain ⟨u, hu⟩ := S2.out.c2 R hds rp cp (by omega) (by omega) (.int .u32 (G2 cp))
        go_wp2_with fail
        go_big_quiet (first | (go_at_call 97; refine Calls.quiet_of_same (less_u32 _ _ _)))
        go_wp2
        · have ht : ltInt (G2 rp) (G2 cp) = false := by simp_all
          refine bodyPost_ret (results_none rfl _ _ _) rfl ?_
          refine ⟨rfl, ?_⟩
          have e := Hst.out
          rw [← HRP.out, ← HCP.out, ← hG2.out rp, ← hG2.out cp, ht, if_pos rfl] at e
          rw [← H.out, e]
          exact S2.out.drewN nq
        · have ht : ltInt (G2 rp) (G2 cp) = true := by simp_all
          go_region
          all_goals go_wp2
          go_roundw
          case rel =>
            have h3 := Hch.out
            refine ⟨c, swp dk rp cp, rfl, by omega, by rw [size_swp]; exact hds, ?_, ?_⟩
            · have := (S2.out.drewN nq).swapped R rp cp (by omega) (by omega)
              rw [← hG2.out rp, ← hG2.out cp] at this
              exact this
            · have e := Hst.out
              rw [← HRP.out, ← HCP.out, ← hG2.out rp, ← hG2.out cp, ht, if_neg (by simp)] at e
              rw [← H.out, e]
              exact rfl
          case measure => have h3 := Hch.out; simp [intOf]; omega
    · have e := sift_stop hi F root dk (by omega)
      clear hc0
      go_wp2
      go_end0
      refine ⟨rfl, ?_⟩
      rw [← H.out, e]
      exact S1.out
theorem sift_size (hi F root : Nat) (d : Array Int) : (siftDown ltInt hi F root d).size = d.size := size_siftDown ltInt hi F _ root d (Nat.le_refl _)
set_option maxHeartbeats 8000000 in
set_option maxRecDepth 100000 in
theorem heap_u32 (blk off cap a b : Nat) (d0 d : Array Int) (w0 w : World) (R : Row1 (.int .u32) w0 blk off d0) (hs : d.size = d0.size) (S : SW (.int .u32) w0 blk off d w) (hab : a < b) (hb : b ≤ d0.size) (hsz : d0.size < 4611686018427387904) :
    Calls Try.prog 92 #[.slice (some ⟨blk, off, none⟩) d0.size cap, .int .i64 a, .int .i64 b] w fun e w' => e = .returned (.tuple #[]) ∧ SW (.int .u32) w0 blk off (heapSort ltInt d a b) w' := by
  have S0 : Hid (SW (.int .u32) w0 blk off d w) := S
  clear S
  obtain ⟨n, hn⟩ : ∃ n, n = b - a := ⟨_, rfl⟩
  have en : (b : Int) - (a : Int) = (n : Int) := by omega
  obtain ⟨m, hm⟩ : ∃ m : Nat, m = (n - 1) / 2 := ⟨_, rfl⟩
  have em : ((n : Int) - 1).tdiv 2 = (m : Int) := by rw [Int.tdiv_eq_ediv_of_nonneg (by omega)]; omega
  have hnb : a + n ≤ d0.size := by omega
  have hmn : m ≤ n := by omega
  have HN : Hid (heapSort ltInt d a b = heapPop ltInt a n (heapBuild ltInt n a (m + 1) d)) := by rw [hm, hn]; exact rfl
  have hnl : n < 4611686018427387904 := by omega
  clear hn hm
  go_enter Try.func92, Try.ntmps92
  go_wp2
  go_loopw [9] (fun vi wr => ∃ (k : Nat) (dk : Array Int), vi = .int .i64 ((k : Int) - 1) ∧ k ≤ m + 1 ∧ dk.size = d0.size ∧ Hid (SW (.int .u32) w0 blk off dk wr) ∧ Hid (heapBuild ltInt n a k dk = heapBuild ltInt n a (m + 1) d))
    (fun vi _ => (intOf vi + 1).toNat)
  case atStart => exact ⟨m + 1, d, by congr 1; omega, Nat.le_refl _, hs, S0, rfl⟩
  case round =>
    clear S0 hs
    obtain ⟨k, dk, rfl, hk, hds, S1, H⟩ := hrel
    cases k with
    | zero =>
      have e1 : dk = heapBuild ltInt n a (m + 1) d := H.out
      have HE : Hid (dk = heapBuild ltInt n a (m + 1) d) := e1
      clear e1 H hk
      go_wp2
      go_loopw [10] (fun vi wr => ∃ (k : Nat) (dj : Array Int), vi = .int .i64 ((k : Int) - 1) ∧ k ≤ n ∧ dj.size = d0.size ∧ Hid (SW (.int .u32) w0 blk off dj wr) ∧ Hid (heapPop ltInt a k dj = heapPop ltInt a n dk))
        (fun vi _ => (intOf vi + 1).toNat)
      case atStart => exact ⟨n, dk, rfl, Nat.le_refl _, hds, S1, rfl⟩
      case round =>
        clear S1 hds
        obtain ⟨k, dj, rfl, hk, hdj, S2, H2⟩ := hrel
        cases k with
        | zero =>
          go_wp2
          go_end0
          refine ⟨rfl, ?_⟩
          rw [HN.out, ← HE.out, ← H2.out]
          exact S2.out
        | succ i =>
          have ei : ((i + 1 : Nat) : Int) - 1 = (i : Int) := by omega
          rw [ei]
          obtain ⟨G, hG, hc, hf⟩ := row_facts S2.out R hdj
          obtain ⟨p, hp⟩ : ∃ p, p = a + i := ⟨_, rfl⟩
          have ep : (a : Int) + (i : Int) = (p : Int) := by omega
          have hpl : p < d0.size := by omega
          have hal : a < d0.size := by omega
          obtain ⟨u, hu⟩ := S2.out.c2 R hdj a p (by omega) (by omega) (.int .u32 (G p))
          have hin : i ≤ n := by omega
          have S3 : Hid (SW (.int .u32) w0 blk off (swp dj a p) ((wr.setCell ⟨blk, off + a, none⟩ (.int .u32 (G p))).setCell ⟨blk, off + p, none⟩ (.int .u32 (G a))).drew) := by
            have := S2.out.swapped R a p (by omega) (by omega)
            rw [← hG.out a, ← hG.out p] at this
            exact this
          have HP : Hid (p = a + i) := hp
          have hcall := sift_u32 blk off cap 0 i a d0 (swp dj a p) w0 ((wr.setCell ⟨blk, off + a, none⟩ (.int .u32 (G p))).setCell ⟨blk, off + p, none⟩ (.int .u32 (G a))).drew R (by rw [size_swp]; exact hdj) S3.out (by omega) (by omega) hsz
          have HCON := Hid.mk' hcall
          clear hcall
          by_cases hne : a = p
          · subst hne
            clear hp
            go_wp2_with fail
            go_region
            all_goals (go_wp2_with (first | (go_at_call 121; refine HCON.out.mono ?_; rintro e w1 ⟨rfl, h1⟩; have S4 := Hid.mk' h1; clear h1)))
            rotate_left
            go_roundw
            case rel =>
              repeat apply Exists.intro
              refine ⟨⟨i, siftDown ltInt i a 0 (swp dj a a), rfl, hin, by rw [sift_size, size_swp]; exact hdj, S4.out, ?_⟩, rfl⟩
              have h := H2.out
              rw [heapPop, ← HP.out] at h
              exact h
            case measure => simp [intOf]
            all_goals exact Value.bool false
          · clear hp
            go_wp2_with fail
            go_region
            all_goals (go_wp2_with (first | (go_at_call 121; refine HCON.out.mono ?_; rintro e w1 ⟨rfl, h1⟩; have S4 := Hid.mk' h1; clear h1)))
            go_roundw
            case rel =>
              repeat apply Exists.intro
              refine ⟨⟨i, siftDown ltInt i a 0 (swp dj a p), rfl, hin, by rw [sift_size, size_swp]; exact hdj, S4.out, ?_⟩, rfl⟩
              have h := H2.out
              rw [heapPop, ← HP.out] at h
              exact h
            case measure => simp [intOf]
    | succ k =>
      have ei : ((k + 1 : Nat) : Int) - 1 = (k : Int) := by omega
      rw [ei]
      have HCON := Hid.mk' (sift_u32 blk off cap k n a d0 dk w0 wr R hds S1.out (by omega) (by omega) hsz)
      go_wp2_with (first | (go_at_call 121; refine HCON.out.mono ?_; rintro e w1 ⟨rfl, h1⟩; have S4 := Hid.mk' h1; clear h1))
      go_roundw
      case rel => exact ⟨k, siftDown ltInt n a k dk, rfl, by omega, by rw [sift_size]; exact hds, S4.out, H.out⟩
      case measure => simp [intOf]
set_option maxHeartbeats 16000000 in
set_option maxRecDepth 100000 in
theorem partition_u32 (blk off cap a b pivot : Nat) (d0 d : Array Int) (w0 w : World) (R : Row1 (.int .u32) w0 blk off d0) (hs : d.size = d0.size) (S : SW (.int .u32) w0 blk off d w) (hap : a ≤ pivot) (hpb : pivot < b) (hb : b ≤ d0.size) (hsz : d0.size < 4611686018427387904) :
    Calls Try.prog 99 #[.slice (some ⟨blk, off, none⟩) d0.size cap, .int .i64 a, .int .i64 b, .int .i64 pivot] w fun e w' =>
      e = .returned (.tuple #[.int .i64 (Sort.partition ltInt d a b pivot).1, .bool (Sort.partition ltInt d a b pivot).2.1]) ∧ SW (.int .u32) w0 blk off (Sort.partition ltInt d a b pivot).2.2 w' := by
  have hal : a < d0.size := by omega
  have hpl0 : pivot < d0.size := by omega
  obtain ⟨G, hG, hc, hf⟩ := row_facts S R hs
  obtain ⟨u, hu⟩ := S.c2 R hs a pivot (by omega) (by omega) (.int .u32 (G pivot))
  have S0 : Hid (SW (.int .u32) w0 blk off (swp d a pivot) ((w.setCell ⟨blk, off + a, none⟩ (.int .u32 (G pivot))).setCell ⟨blk, off + pivot, none⟩ (.int .u32 (G a))).drew) := by
    have := S.swapped R a pivot (by omega) (by omega)
    rw [← hG.out a, ← hG.out pivot] at this
    exact this
  clear S
  go_enter Try.func99, Try.ntmps99
  go_wp2
  go_region
  all_goals go_wp2
  clear hc hf hu
  generalize ((w.setCell ⟨blk, off + a, none⟩ (.int .u32 (G pivot))).setCell ⟨blk, off + pivot, none⟩ (.int .u32 (G a))).drew = w1 at S0 ⊢
  clear hG
  obtain ⟨i, hi⟩ : ∃ i : Nat, i = a + 1 := ⟨_, rfl⟩
  obtain ⟨j, hj⟩ : ∃ j : Nat, j = b - 1 := ⟨_, rfl⟩
  obtain ⟨dk, hdk⟩ : ∃ dk : Array Int, dk = swp d a pivot := ⟨_, rfl⟩
  have S1 : Hid (SW (.int .u32) w0 blk off dk w1) := by rw [hdk]; exact S0.out
  clear S0
  have hds : dk.size = d0.size := by rw [hdk, size_swp]; exact hs
  have e1 : ((a : Int) + 1) = (i : Int) := by omega
  have e2 : ((b : Int) - 1) = (j : Int) := by omega
  rw [e1, e2]
  clear e1 e2
  have hai : a < i := by omega
  have hij : i ≤ j + 1 := by omega
  have hjb : j < b := by omega
  have Hi : Hid (i = a + 1) := hi
  have Hj : Hid (j = b - 1) := hj
  have Hdk : Hid (dk = swp d a pivot) := hdk
  clear hi hj hdk hs
  go_loopw [10] (fun vi wr => ∃ p : Nat, vi = .int .i64 p ∧ i ≤ p ∧ p ≤ j + 1 ∧ Hid (SW (.int .u32) w0 blk off dk wr) ∧ Hid (scanUp (fun x => ltInt x dk[a]!) dk j p = scanUp (fun x => ltInt x dk[a]!) dk j i))
    (fun vi _ => j + 1 - (intOf vi).toNat)
  case atStart => exact ⟨i, rfl, Nat.le_refl _, hij, S1, rfl⟩
  case round =>
    clear S1
    obtain ⟨p, rfl, hip, hpj, S2, HU⟩ := hrel
    by_cases hle : p ≤ j
    · obtain ⟨G, hG, hc, hf⟩ := row_facts S2.out R hds
      have hpl : p < d0.size := by omega
      go_wp2_with fail
      go_big_quiet (first | (go_at_call 97; refine Calls.quiet_of_same (less_u32 _ _ _)))
      go_wp2
      · have ht : ltInt (G p) (G a) = true := by assumption
        go_roundw
        case rel => exact ⟨p + 1, by go_num, by omega, by omega, S2.out.drewN nq, (scanUp_go (fun x => ltInt x dk[a]!) dk j p hle (by rw [← hG.out a, ← hG.out p]; exact ht)).symm.trans HU.out⟩
        case measure => simp [intOf]; omega
      · have ht : ltInt (G p) (G a) = false := by assumption
        have HI2 : Hid (p = scanUp (fun x => ltInt x dk[a]!) dk j i) := (scanUp_end (fun x => ltInt x dk[a]!) dk j p (.inr (by rw [← hG.out a, ← hG.out p]; exact ht))).symm.trans HU.out
        have S3 : Hid (SW (.int .u32) w0 blk off dk (wr.drewN nq)) := S2.out.drewN nq
        clear hc hf hG S2 HU ht
        go_loopw [11] (fun vj wr => ∃ q : Nat, vj = .int .i64 q ∧ q ≤ j ∧ p ≤ q + 1 ∧ Hid (SW (.int .u32) w0 blk off dk wr) ∧ Hid (scanDown (fun x => !ltInt x dk[a]!) dk p q = scanDown (fun x => !ltInt x dk[a]!) dk p j))
          (fun vj _ => (intOf vj).toNat)
        case atStart => exact ⟨j, rfl, Nat.le_refl _, hpj, S3, rfl⟩
        case round =>
          clear S3
          obtain ⟨q, rfl, hqj, hpq, S4, HD⟩ := hrel
          by_cases hle2 : p ≤ q
          · obtain ⟨G, hG, hc, hf⟩ := row_facts S4.out R hds
            have hql : q < d0.size := by omega
            go_wp2_with fail
            go_big_quiet (first | (go_at_call 97; refine Calls.quiet_of_same (less_u32 _ _ _)))
            go_wp2
            · have ht : (!ltInt (G q) (G a)) = true := by assumption
              go_roundw
              case rel => exact ⟨q - 1, by go_num, by omega, by omega, S4.out.drewN nq, (scanDown_go (fun x => !ltInt x dk[a]!) dk p q hle2 (by omega) (by rw [← hG.out a, ← hG.out q]; exact ht)).symm.trans HD.out⟩
              case measure => simp [intOf]; omega
            · have ht : (!ltInt (G q) (G a)) = false := by assumption
              have HJ2 : Hid (q = scanDown (fun x => !ltInt x dk[a]!) dk p j) := (scanDown_end (fun x => !ltInt x dk[a]!) dk p q (.inr (by rw [← hG.out a, ← hG.out q]; exact ht))).symm.trans HD.out
              have S5 : Hid (SW (.int .u32) w0 blk off dk (wr.drewN nq)) := S4.out.drewN nq
              clear hc hf hG S4 HD ht
              generalize wr.drewN nq = w5 at S5 ⊢
              have hlt := part_scans_lt ltInt a i j dk (by omega) HI2.out HJ2.out hle2
              obtain ⟨G, hG, hc, hf⟩ := row_facts S5.out R hds
              have hpl : p < d0.size := by omega
              have hql : q < d0.size := by omega
              obtain ⟨u, hu⟩ := S5.out.c2 R hds p q (by omega) (by omega) (.int .u32 (G q))
              have S6 : Hid (SW (.int .u32) w0 blk off (swp dk p q) ((w5.setCell ⟨blk, off + p, none⟩ (.int .u32 (G q))).setCell ⟨blk, off + q, none⟩ (.int .u32 (G p))).drew) := by
                have := S5.out.swapped R p q (by omega) (by omega)
                rw [← hG.out p, ← hG.out q] at this
                exact this
              clear S5
              go_wp2
              go_region
              all_goals go_wp2
              obtain ⟨Rr, hR⟩ : ∃ Rr, Rr = partLoop ltInt a (p + 1) (q - 1) (swp dk p q) := ⟨_, rfl⟩
              have HP : Hid (Sort.partition ltInt d a b pivot = (Rr.1, false, swp Rr.2 Rr.1 a)) := by rw [hR]; exact part_first_go ltInt d a b pivot Hi.out Hj.out Hdk.out HI2.out HJ2.out (by omega)
              have HR : Hid (Rr = partLoop ltInt a (p + 1) (q - 1) (swp dk p q)) := hR
              clear hR hc hf hG hu HI2 HJ2
              go_loopw [10, 11] (fun vi vj wr => ∃ (i j : Nat) (dk : Array Int), vi = .int .i64 i ∧ vj = .int .i64 j ∧ a < i ∧ i ≤ j + 1 ∧ j < b ∧ dk.size = d0.size ∧ Hid (SW (.int .u32) w0 blk off dk wr) ∧ Hid (partLoop ltInt a i j dk = Rr))
                (fun vi vj _ => (intOf vj).toNat + 1 - (intOf vi).toNat)
              case atStart => exact ⟨p + 1, q - 1, swp dk p q, by go_num, by go_num, by omega, by omega, by omega, by rw [size_swp]; exact hds, S6, HR.out.symm⟩
              case round =>
                clear S6 HR
                clear hai hij hjb hip hpj hle hle2 hlt hqj hpq hpl hql hds Hi Hj Hdk
                obtain ⟨i1, j1, dk1, rfl, rfl, hai, hij, hjb, hds, S1, HL⟩ := hrel
                go_wp2
                go_loopw [10] (fun vi wr => ∃ p1 : Nat, vi = .int .i64 p1 ∧ i1 ≤ p1 ∧ p1 ≤ j1 + 1 ∧ Hid (SW (.int .u32) w0 blk off dk1 wr) ∧ Hid (scanUp (fun x => ltInt x dk1[a]!) dk1 j1 p1 = scanUp (fun x => ltInt x dk1[a]!) dk1 j1 i1))
                  (fun vi _ => j1 + 1 - (intOf vi).toNat)
                case atStart => exact ⟨i1, rfl, Nat.le_refl _, hij, S1, rfl⟩
                case round =>
                  clear S1
                  obtain ⟨p1, rfl, hip, hpj, S2, HU⟩ := hrel
                  by_cases hle : p1 ≤ j1
                  · obtain ⟨G, hG, hc, hf⟩ := row_facts S2.out R hds
                    have hpl : p1 < d0.size := by omega
                    go_wp2_with fail
                    go_big_quiet (first | (go_at_call 97; refine Calls.quiet_of_same (less_u32 _ _ _)))
                    go_wp2
                    · have ht : ltInt (G p1) (G a) = true := by assumption
                      go_roundw
                      case rel => exact ⟨p1 + 1, by go_num, by omega, by omega, S2.out.drewN nq, (scanUp_go (fun x => ltInt x dk1[a]!) dk1 j1 p1 hle (by rw [← hG.out a, ← hG.out p1]; exact ht)).symm.trans HU.out⟩
                      case measure => simp [intOf]; omega
                    · have ht : ltInt (G p1) (G a) = false := by assumption
                      have HI2 : Hid (p1 = scanUp (fun x => ltInt x dk1[a]!) dk1 j1 i1) := (scanUp_end (fun x => ltInt x dk1[a]!) dk1 j1 p1 (.inr (by rw [← hG.out a, ← hG.out p1]; exact ht))).symm.trans HU.out
                      have S3 : Hid (SW (.int .u32) w0 blk off dk1 (wr.drewN nq)) := S2.out.drewN nq
                      clear hc hf hG S2 HU ht
                      go_loopw [11] (fun vj wr => ∃ q1 : Nat, vj = .int .i64 q1 ∧ q1 ≤ j1 ∧ p1 ≤ q1 + 1 ∧ Hid (SW (.int .u32) w0 blk off dk1 wr) ∧ Hid (scanDown (fun x => !ltInt x dk1[a]!) dk1 p1 q1 = scanDown (fun x => !ltInt x dk1[a]!) dk1 p1 j1))
                        (fun vj _ => (intOf vj).toNat)
                      case atStart => exact ⟨j1, rfl, Nat.le_refl _, hpj, S3, rfl⟩
                      case round =>
                        clear S3
                        obtain ⟨q1, rfl, hqj, hpq, S4, HD⟩ := hrel
                        by_cases hle2 : p1 ≤ q1
                        · obtain ⟨G, hG, hc, hf⟩ := row_facts S4.out R hds
                          have hql : q1 < d0.size := by omega
                          go_wp2_with fail
                          go_big_quiet (first | (go_at_call 97; refine Calls.quiet_of_same (less_u32 _ _ _)))
                          go_wp2
                          · have ht : (!ltInt (G q1) (G a)) = true := by assumption
                            go_roundw
                            case rel => exact ⟨q1 - 1, by go_num, by omega, by omega, S4.out.drewN nq, (scanDown_go (fun x => !ltInt x dk1[a]!) dk1 p1 q1 hle2 (by omega) (by rw [← hG.out a, ← hG.out q1]; exact ht)).symm.trans HD.out⟩
                            case measure => simp [intOf]; omega
                          · have ht : (!ltInt (G q1) (G a)) = false := by assumption
                            have HJ2 : Hid (q1 = scanDown (fun x => !ltInt x dk1[a]!) dk1 p1 j1) := (scanDown_end (fun x => !ltInt x dk1[a]!) dk1 p1 q1 (.inr (by rw [← hG.out a, ← hG.out q1]; exact ht))).symm.trans HD.out
                            have S5 : Hid (SW (.int .u32) w0 blk off dk1 (wr.drewN nq)) := S4.out.drewN nq
                            clear hc hf hG S4 HD ht
                            generalize wr.drewN nq = w5 at S5 ⊢
                            have hlt := part_scans_lt ltInt a i1 j1 dk1 (by omega) HI2.out HJ2.out hle2
                            obtain ⟨G, hG, hc, hf⟩ := row_facts S5.out R hds
                            have hpl : p1 < d0.size := by omega
                            have hql : q1 < d0.size := by omega
                            obtain ⟨u, hu⟩ := S5.out.c2 R hds p1 q1 (by omega) (by omega) (.int .u32 (G q1))
                            have S6 : Hid (SW (.int .u32) w0 blk off (swp dk1 p1 q1) ((w5.setCell ⟨blk, off + p1, none⟩ (.int .u32 (G q1))).setCell ⟨blk, off + q1, none⟩ (.int .u32 (G p1))).drew) := by
                              have := S5.out.swapped R p1 q1 (by omega) (by omega)
                              rw [← hG.out p1, ← hG.out q1] at this
                              exact this
                            clear S5
                            go_wp2
                            go_region
                            all_goals go_wp2
                            go_roundw
                            case rel =>
                              refine ⟨p1 + 1, q1 - 1, swp dk1 p1 q1, by go_num, by go_num, by omega, by omega, by omega, by rw [size_swp]; exact hds, S6, ?_⟩
                              rw [← HL.out, part_go ltInt a i1 j1 dk1 HI2.out HJ2.out (by omega)]
                              exact rfl
                            case measure => simp [intOf]; omega
                        · have HJ2 : Hid (q1 = scanDown (fun x => !ltInt x dk1[a]!) dk1 p1 j1) := (scanDown_end (fun x => !ltInt x dk1[a]!) dk1 p1 q1 (.inl hle2)).symm.trans HD.out
                          go_wp2_with fail
                          go_big_quiet (fail)
                          have S5 : Hid (SW (.int .u32) w0 blk off dk1 (wr.drewN nq)) := S4.out.drewN nq
                          clear S4 HD
                          generalize wr.drewN nq = w5 at S5 ⊢
                          have hlt : q1 < p1 := by omega
                          go_wp2_with fail
                          obtain ⟨G, hG, hc, hf⟩ := row_facts S5.out R hds
                          have hql : q1 < d0.size := by omega
                          have hal : a < d0.size := by omega
                          obtain ⟨u, hu⟩ := S5.out.c2 R hds q1 a (by omega) (by omega) (.int .u32 (G a))
                          have S6 : Hid (SW (.int .u32) w0 blk off (swp dk1 q1 a) ((w5.setCell ⟨blk, off + q1, none⟩ (.int .u32 (G a))).setCell ⟨blk, off + a, none⟩ (.int .u32 (G q1))).drew) := by
                            have := S5.out.swapped R q1 a (by omega) (by omega)
                            rw [← hG.out q1, ← hG.out a] at this
                            exact this
                          clear S5
                          go_wp2
                          go_region
                          all_goals go_wp2
                          go_ret2
                          have e := HL.out
                          rw [part_break ltInt a i1 j1 dk1 HI2.out HJ2.out hlt] at e
                          rw [HP.out, ← e]
                          exact ⟨rfl, S6.out⟩
                  · have HI2 : Hid (p1 = scanUp (fun x => ltInt x dk1[a]!) dk1 j1 i1) := (scanUp_end (fun x => ltInt x dk1[a]!) dk1 j1 p1 (.inl hle)).symm.trans HU.out
                    go_wp2_with fail
                    go_big_quiet (fail)
                    have S3 : Hid (SW (.int .u32) w0 blk off dk1 (wr.drewN nq)) := S2.out.drewN nq
                    clear S2 HU
                    generalize wr.drewN nq = w3 at S3 ⊢
                    go_wp2_with fail
                    go_loopw [11] (fun vj wr => vj = .int .i64 j1 ∧ Hid (SW (.int .u32) w0 blk off dk1 wr)) (fun vj _ => 0)
                    case atStart => exact ⟨rfl, S3⟩
                    case round =>
                      clear S3
                      obtain ⟨rfl, S4⟩ := hrel
                      have HJ2 : Hid (j1 = scanDown (fun x => !ltInt x dk1[a]!) dk1 p1 j1) := (scanDown_end (fun x => !ltInt x dk1[a]!) dk1 p1 j1 (.inl hle)).symm
                      go_wp2_with fail
                      go_big_quiet (fail)
                      have S5 : Hid (SW (.int .u32) w0 blk off dk1 (wr.drewN nq)) := S4.out.drewN nq
                      clear S4
                      generalize wr.drewN nq = w5 at S5 ⊢
                      have hlt : j1 < p1 := by omega
                      go_wp2_with fail
                      obtain ⟨G, hG, hc, hf⟩ := row_facts S5.out R hds
                      have hql : j1 < d0.size := by omega
                      have hal : a < d0.size := by omega
                      obtain ⟨u, hu⟩ := S5.out.c2 R hds j1 a (by omega) (by omega) (.int .u32 (G a))
                      have S6 : Hid (SW (.int .u32) w0 blk off (swp dk1 j1 a) ((w5.setCell ⟨blk, off + j1, none⟩ (.int .u32 (G a))).setCell ⟨blk, off + a, none⟩ (.int .u32 (G j1))).drew) := by
                        have := S5.out.swapped R j1 a (by omega) (by omega)
                        rw [← hG.out j1, ← hG.out a] at this
                        exact this
                      clear S5
                      go_wp2
                      go_region
                      all_goals go_wp2
                      go_ret2
                      have e := HL.out
                      rw [part_break ltInt a i1 j1 dk1 HI2.out HJ2.out hlt] at e
                      rw [HP.out, ← e]
                      exact ⟨rfl, S6.out⟩
          · have HJ2 : Hid (q = scanDown (fun x => !ltInt x dk[a]!) dk p j) := (scanDown_end (fun x => !ltInt x dk[a]!) dk p q (.inl hle2)).symm.trans HD.out
            go_wp2_with fail
            go_big_quiet (fail)
            have S5 : Hid (SW (.int .u32) w0 blk off dk (wr.drewN nq)) := S4.out.drewN nq
            clear S4 HD
            generalize wr.drewN nq = w5 at S5 ⊢
            have hlt : q < p := by omega
            go_wp2_with fail
            obtain ⟨G, hG, hc, hf⟩ := row_facts S5.out R hds
            have hql : q < d0.size := by omega
            have hal : a < d0.size := by omega
            obtain ⟨u, hu⟩ := S5.out.c2 R hds q a (by omega) (by omega) (.int .u32 (G a))
            have S6 : Hid (SW (.int .u32) w0 blk off (swp dk q a) ((w5.setCell ⟨blk, off + q, none⟩ (.int .u32 (G a))).setCell ⟨blk, off + a, none⟩ (.int .u32 (G q))).drew) := by
              have := S5.out.swapped R q a (by omega) (by omega)
              rw [← hG.out q, ← hG.out a] at this
              exact this
            clear S5
            go_wp2
            go_region
            all_goals go_wp2
            go_ret2
            have e := part_first_break ltInt d a b pivot Hi.out Hj.out Hdk.out HI2.out HJ2.out hlt
            rw [e]
            exact ⟨rfl, S6.out⟩
    · have HI2 : Hid (p = scanUp (fun x => ltInt x dk[a]!) dk j i) := (scanUp_end (fun x => ltInt x dk[a]!) dk j p (.inl hle)).symm.trans HU.out
      go_wp2_with fail
      go_big_quiet (fail)
      have S3 : Hid (SW (.int .u32) w0 blk off dk (wr.drewN nq)) := S2.out.drewN nq
      clear S2 HU
      generalize wr.drewN nq = w3 at S3 ⊢
      go_wp2_with fail
      go_loopw [11] (fun vj wr => vj = .int .i64 j ∧ Hid (SW (.int .u32) w0 blk off dk wr)) (fun vj _ => 0)
      case atStart => exact ⟨rfl, S3⟩
      case round =>
        clear S3
        obtain ⟨rfl, S4⟩ := hrel
        have HJ2 : Hid (j = scanDown (fun x => !ltInt x dk[a]!) dk p j) := (scanDown_end (fun x => !ltInt x dk[a]!) dk p j (.inl hle)).symm
        go_wp2_with fail
        go_big_quiet (fail)
        have S5 : Hid (SW (.int .u32) w0 blk off dk (wr.drewN nq)) := S4.out.drewN nq
        clear S4
        generalize wr.drewN nq = w5 at S5 ⊢
        have hlt : j < p := by omega
        go_wp2_with fail
        obtain ⟨G, hG, hc, hf⟩ := row_facts S5.out R hds
        have hql : j < d0.size := by omega
        have hal : a < d0.size := by omega
        obtain ⟨u, hu⟩ := S5.out.c2 R hds j a (by omega) (by omega) (.int .u32 (G a))
        have S6 : Hid (SW (.int .u32) w0 blk off (swp dk j a) ((w5.setCell ⟨blk, off + j, none⟩ (.int .u32 (G a))).setCell ⟨blk, off + a, none⟩ (.int .u32 (G j))).drew) := by
          have := S5.out.swapped R j a (by omega) (by omega)
          rw [← hG.out j, ← hG.out a] at this
          exact this
        clear S5
        go_wp2
        go_region
        all_goals go_wp2
        go_ret2
        have e := part_first_break ltInt d a b pivot Hi.out Hj.out Hdk.out HI2.out HJ2.out hlt
        rw [e]
        exact ⟨rfl, S6.out⟩
theorem eq_end (a i j p q : Nat) (d : Array Int) (hp : p = scanUp (fun x => !ltInt d[a]! x) d j i) (hq : q = scanDown (fun x => ltInt d[a]! x) d p j) (h : q < p) : partEqLoop ltInt a i j d = (p, d) := by
  subst hp; subst hq
  rw [partEqLoop_eq, if_pos h]
theorem eq_go (a i j p q : Nat) (d : Array Int) (hp : p = scanUp (fun x => !ltInt d[a]! x) d j i) (hq : q = scanDown (fun x => ltInt d[a]! x) d p j) (h : ¬ p > q) : partEqLoop ltInt a i j d = partEqLoop ltInt a (p + 1) (q - 1) (swp d p q) := by
  subst hp; subst hq
  rw [partEqLoop_eq, if_neg h]
set_option maxHeartbeats 16000000 in
set_option maxRecDepth 100000 in
theorem partEq_u32 (blk off cap a b pivot : Nat) (d0 d : Array Int) (w0 w : World) (R : Row1 (.int .u32) w0 blk off d0) (hs : d.size = d0.size) (S : SW (.int .u32) w0 blk off d w) (hap : a ≤ pivot) (hpb : pivot < b) (hb : b ≤ d0.size) (hsz : d0.size < 4611686018427387904) :
    Calls Try.prog 98 #[.slice (some ⟨blk, off, none⟩) d0.size cap, .int .i64 a, .int .i64 b, .int .i64 pivot] w fun e w' =>
      e = .returned (.int .i64 (partitionEqual ltInt d a b pivot).1) ∧ SW (.int .u32) w0 blk off (partitionEqual ltInt d a b pivot).2 w' := by
  have hal : a < d0.size := by omega
  have hpl0 : pivot < d0.size := by omega
  obtain ⟨G, hG, hc, hf⟩ := row_facts S R hs
  obtain ⟨u, hu⟩ := S.c2 R hs a pivot (by omega) (by omega) (.int .u32 (G pivot))
  have S0 : Hid (SW (.int .u32) w0 blk off (swp d a pivot) ((w.setCell ⟨blk, off + a, none⟩ (.int .u32 (G pivot))).setCell ⟨blk, off + pivot, none⟩ (.int .u32 (G a))).drew) := by
    have := S.swapped R a pivot (by omega) (by omega)
    rw [← hG.out a, ← hG.out pivot] at this
    exact this
  clear S
  go_enter Try.func98, Try.ntmps98
  go_wp2
  go_region
  all_goals go_wp2
  clear hc hf hu
  generalize ((w.setCell ⟨blk, off + a, none⟩ (.int .u32 (G pivot))).setCell ⟨blk, off + pivot, none⟩ (.int .u32 (G a))).drew = w1 at S0 ⊢
  clear hG
  obtain ⟨Rr, hR⟩ : ∃ Rr, Rr = partEqLoop ltInt a (a + 1) (b - 1) (swp d a pivot) := ⟨_, rfl⟩
  have HP : Hid (partitionEqual ltInt d a b pivot = Rr) := by rw [hR]; exact rfl
  have HR : Hid (Rr = partEqLoop ltInt a (a + 1) (b - 1) (swp d a pivot)) := hR
  clear hR
  go_loopw [9, 10] (fun vi vj wr => ∃ (i j : Nat) (dk : Array Int), vi = .int .i64 i ∧ vj = .int .i64 j ∧ a < i ∧ i ≤ j + 1 ∧ j < b ∧ dk.size = d0.size ∧ Hid (SW (.int .u32) w0 blk off dk wr) ∧ Hid (partEqLoop ltInt a i j dk = Rr))
    (fun vi vj _ => (intOf vj).toNat + 1 - (intOf vi).toNat)
  case atStart => exact ⟨a + 1, b - 1, swp d a pivot, by go_num, by congr 1; omega, by omega, by omega, by omega, by rw [size_swp]; exact hs, S0, HR.out.symm⟩
  case round =>
    clear S0 HR hs
    obtain ⟨i, j, dk, rfl, rfl, hai, hij, hjb, hds, S1, HL⟩ := hrel
    go_wp2
    go_loopw [9] (fun vi wr => ∃ p : Nat, vi = .int .i64 p ∧ i ≤ p ∧ p ≤ j + 1 ∧ Hid (SW (.int .u32) w0 blk off dk wr) ∧ Hid (scanUp (fun x => !ltInt dk[a]! x) dk j p = scanUp (fun x => !ltInt dk[a]! x) dk j i))
      (fun vi _ => j + 1 - (intOf vi).toNat)
    case atStart => exact ⟨i, rfl, Nat.le_refl _, hij, S1, rfl⟩
    case round =>
      clear S1
      obtain ⟨p, rfl, hip, hpj, S2, HU⟩ := hrel
      by_cases hle : p ≤ j
      · obtain ⟨G, hG, hc, hf⟩ := row_facts S2.out R hds
        have hpl : p < d0.size := by omega
        go_wp2_with fail
        go_big_quiet (first | (go_at_call 97; refine Calls.quiet_of_same (less_u32 _ _ _)))
        go_wp2
        · have ht : (!ltInt (G a) (G p)) = true := by assumption
          go_roundw
          case rel => exact ⟨p + 1, by go_num, by omega, by omega, S2.out.drewN nq, (scanUp_go (fun x => !ltInt dk[a]! x) dk j p hle (by rw [← hG.out a, ← hG.out p]; exact ht)).symm.trans HU.out⟩
          case measure => simp [intOf]; omega
        · have ht : (!ltInt (G a) (G p)) = false := by assumption
          have HT : Hid (ltInt dk[a]! dk[p]! = true) := by rw [← hG.out a, ← hG.out p]; exact (show ltInt (G a) (G p) = true by simpa using ht)
          have HI2 : Hid (p = scanUp (fun x => !ltInt dk[a]! x) dk j i) := (scanUp_end (fun x => !ltInt dk[a]! x) dk j p (.inr (by rw [← hG.out a, ← hG.out p]; exact ht))).symm.trans HU.out
          have S3 : Hid (SW (.int .u32) w0 blk off dk (wr.drewN nq)) := S2.out.drewN nq
          clear hc hf hG S2 HU ht
          go_loopw [10] (fun vj wr => ∃ q : Nat, vj = .int .i64 q ∧ q ≤ j ∧ p ≤ q + 1 ∧ Hid (SW (.int .u32) w0 blk off dk wr) ∧ Hid (scanDown (fun x => ltInt dk[a]! x) dk p q = scanDown (fun x => ltInt dk[a]! x) dk p j))
            (fun vj _ => (intOf vj).toNat)
          case atStart => exact ⟨j, rfl, Nat.le_refl _, hpj, S3, rfl⟩
          case round =>
            clear S3
            obtain ⟨q, rfl, hqj, hpq, S4, HD⟩ := hrel
            by_cases hle2 : p ≤ q
            · obtain ⟨G, hG, hc, hf⟩ := row_facts S4.out R hds
              have hql : q < d0.size := by omega
              go_wp2_with fail
              go_big_quiet (first | (go_at_call 97; refine Calls.quiet_of_same (less_u32 _ _ _)))
              go_wp2
              · have ht : ltInt (G a) (G q) = true := by assumption
                go_roundw
                case rel => exact ⟨q - 1, by go_num, by omega, by omega, S4.out.drewN nq, (scanDown_go (fun x => ltInt dk[a]! x) dk p q hle2 (by omega) (by rw [← hG.out a, ← hG.out q]; exact ht)).symm.trans HD.out⟩
                case measure => simp [intOf]; omega
              · have ht : ltInt (G a) (G q) = false := by assumption
                have HJ2 : Hid (q = scanDown (fun x => ltInt dk[a]! x) dk p j) := (scanDown_end (fun x => ltInt dk[a]! x) dk p q (.inr (by rw [← hG.out a, ← hG.out q]; exact ht))).symm.trans HD.out
                have hne : p ≠ q := fun e => by
                  have h1 := HT.out
                  rw [e, ← hG.out a, ← hG.out q, ht] at h1
                  exact absurd h1 (by simp)
                have S5 : Hid (SW (.int .u32) w0 blk off dk (wr.drewN nq)) := S4.out.drewN nq
                clear hc hf hG S4 HD ht
                generalize wr.drewN nq = w5 at S5 ⊢
                have hlt : p < q := by omega
                obtain ⟨G, hG, hc, hf⟩ := row_facts S5.out R hds
                have hql : q < d0.size := by omega
                obtain ⟨u, hu⟩ := S5.out.c2 R hds p q (by omega) (by omega) (.int .u32 (G q))
                have S6 : Hid (SW (.int .u32) w0 blk off (swp dk p q) ((w5.setCell ⟨blk, off + p, none⟩ (.int .u32 (G q))).setCell ⟨blk, off + q, none⟩ (.int .u32 (G p))).drew) := by
                  have := S5.out.swapped R p q (by omega) (by omega)
                  rw [← hG.out p, ← hG.out q] at this
                  exact this
                clear S5
                go_wp2
                go_region
                all_goals go_wp2
                go_roundw
                case rel =>
                  refine ⟨p + 1, q - 1, swp dk p q, by go_num, by go_num, by omega, by omega, by omega, by rw [size_swp]; exact hds, S6, ?_⟩
                  rw [← HL.out, eq_go a i j p q dk HI2.out HJ2.out (by omega)]
                  exact rfl
                case measure => simp [intOf]; omega
            · have HJ2 : Hid (q = scanDown (fun x => ltInt dk[a]! x) dk p j) := (scanDown_end (fun x => ltInt dk[a]! x) dk p q (.inl hle2)).symm.trans HD.out
              go_wp2_with fail
              go_big_quiet (fail)
              have S5 : Hid (SW (.int .u32) w0 blk off dk (wr.drewN nq)) := S4.out.drewN nq
              clear S4 HD
              generalize wr.drewN nq = w5 at S5 ⊢
              have hlt : q < p := by omega
              have e := HL.out
              rw [eq_end a i j p q dk HI2.out HJ2.out hlt] at e
              go_wp2
              go_ret
              rw [HP.out, ← e]
              exact ⟨rfl, S5.out⟩
      · have HI2 : Hid (p = scanUp (fun x => !ltInt dk[a]! x) dk j i) := (scanUp_end (fun x => !ltInt dk[a]! x) dk j p (.inl hle)).symm.trans HU.out
        go_wp2_with fail
        go_big_quiet (fail)
        have S3 : Hid (SW (.int .u32) w0 blk off dk (wr.drewN nq)) := S2.out.drewN nq
        clear S2 HU
        generalize wr.drewN nq = w3 at S3 ⊢
        go_wp2_with fail
        go_loopw [10] (fun vj wr => vj = .int .i64 j ∧ Hid (SW (.int .u32) w0 blk off dk wr)) (fun vj _ => 0)
        case atStart => exact ⟨rfl, S3⟩
        case round =>
          clear S3
          obtain ⟨rfl, S4⟩ := hrel
          have HJ2 : Hid (j = scanDown (fun x => ltInt dk[a]! x) dk p j) := (scanDown_end (fun x => ltInt dk[a]! x) dk p j (.inl hle)).symm
          go_wp2_with fail
          go_big_quiet (fail)
          have S5 : Hid (SW (.int .u32) w0 blk off dk (wr.drewN nq)) := S4.out.drewN nq
          clear S4
          generalize wr.drewN nq = w5 at S5 ⊢
          have hlt : j < p := by omega
          have e := HL.out
          rw [eq_end a i j p j dk HI2.out HJ2.out hlt] at e
          go_wp2
          go_ret
          rw [HP.out, ← e]
          exact ⟨rfl, S5.out⟩
theorem scanS_go (d : Array Int) (b i k : Nat) (hk : k = i - 1) (h : i < b) (hl : (!ltInt d[i]! d[k]!) = true) : scanSorted ltInt d b i = scanSorted ltInt d b (i + 1) := by
  subst hk
  rw [scanSorted, if_pos (by rw [hl]; simp [h])]
theorem scanS_end (d : Array Int) (b i k : Nat) (hk : k = i - 1) (h : ¬ i < b ∨ (!ltInt d[i]! d[k]!) = false) : scanSorted ltInt d b i = i := by
  subst hk
  rw [scanSorted, if_neg (by rcases h with h | h <;> simp [h])]
theorem shD_stop (d : Array Int) (q k : Nat) (hk : q = k + 1) (h : (!ltInt d[q]! d[k]!) = true) : shiftDown ltInt q d = d := by
  subst hk
  rw [shiftDown, if_pos h]
theorem shD_go (d : Array Int) (q k : Nat) (hk : q = k + 1) (h : (!ltInt d[q]! d[k]!) = false) : shiftDown ltInt q d = shiftDown ltInt k (swp d q k) := by
  subst hk
  rw [shiftDown, if_neg (by rw [h]; simp)]
theorem shU_stop (d : Array Int) (b q k : Nat) (hk : k = q - 1) (hb : q < b) (h : (!ltInt d[q]! d[k]!) = true) : shiftUp ltInt b q d = d := by
  subst hk
  rw [shiftUp, if_pos hb, if_pos h]
theorem shU_go (d : Array Int) (b q k : Nat) (hk : k = q - 1) (hb : q < b) (h : (!ltInt d[q]! d[k]!) = false) : shiftUp ltInt b q d = shiftUp ltInt b (q + 1) (swp d q k) := by
  subst hk
  rw [shiftUp, if_pos hb, if_neg (by rw [h]; simp)]
theorem shU_end (d : Array Int) (b q : Nat) (hb : ¬ q < b) : shiftUp ltInt b q d = d := by rw [shiftUp, if_neg hb]
theorem part_true (a b s i p : Nat) (d : Array Int) (hp : p = scanSorted ltInt d b i) (hb : p = b) : partialIns ltInt a b (s + 1) i d = (d, true) := by
  subst hp
  unfold partialIns
  simp only [hb, if_true]
theorem part_false (a b s i p : Nat) (d : Array Int) (hp : p = scanSorted ltInt d b i) (hb : p ≠ b) (h : b - a < 50) : partialIns ltInt a b (s + 1) i d = (d, false) := by
  subst hp
  unfold partialIns
  simp only [if_neg hb, if_pos h]
theorem part_step (a b s i p pm : Nat) (d d2 d3 : Array Int) (hp : p = scanSorted ltInt d b i) (hpm : pm = p - 1) (hb : p ≠ b) (h : ¬ b - a < 50) (h2 : d2 = if p - a ≥ 2 then shiftDown ltInt pm (swp d p pm) else swp d p pm)
    (h3 : d3 = if b - p ≥ 2 then shiftUp ltInt b (p + 1) d2 else d2) : partialIns ltInt a b (s + 1) i d = partialIns ltInt a b s p d3 := by
  subst h3; subst h2; subst hpm; subst hp
  conv => lhs; unfold partialIns
  simp only [if_neg hb, if_neg h]
set_option maxHeartbeats 16000000 in
set_option maxRecDepth 100000 in
theorem partial_u32 (blk off cap a b : Nat) (d0 d : Array Int) (w0 w : World) (R : Row1 (.int .u32) w0 blk off d0) (hs : d.size = d0.size) (S : SW (.int .u32) w0 blk off d w) (hab : a < b) (hb : b ≤ d0.size) (hsz : d0.size < 4611686018427387904) :
    Calls Try.prog 96 #[.slice (some ⟨blk, off, none⟩) d0.size cap, .int .i64 a, .int .i64 b] w fun e w' =>
      e = .returned (.bool (partialInsertionSort ltInt d a b).2) ∧ SW (.int .u32) w0 blk off (partialInsertionSort ltInt d a b).1 w' ∧ (partialInsertionSort ltInt d a b).1.size = d0.size := by
  have S0 : Hid (SW (.int .u32) w0 blk off d w) := S
  clear S
  obtain ⟨Rr, hR⟩ : ∃ Rr, Rr = partialIns ltInt a b 5 (a + 1) d := ⟨_, rfl⟩
  have HP : Hid (partialInsertionSort ltInt d a b = Rr) := by rw [hR]; exact rfl
  have HR0 : Hid (Rr = partialIns ltInt a b 5 (a + 1) d) := hR
  clear hR
  go_enter Try.func96, Try.ntmps96
  go_wp2
  all_goals (try (exfalso; omega))
  go_loopw [7, 8, 9, 10] (fun v7 v8 v9 v10 wr => ∃ (i s : Nat) (dk : Array Int), v7 = .int .i64 i ∧ v8 = .int .i64 s ∧ s ≤ 5 ∧ a + 1 ≤ i ∧ i ≤ b ∧ dk.size = d0.size ∧ Hid (SW (.int .u32) w0 blk off dk wr) ∧ Hid (partialIns ltInt a b (5 - s) i dk = Rr))
    (fun v7 v8 v9 v10 _ => 5 - (intOf v8).toNat)
  case atStart => exact ⟨a + 1, 0, d, by go_num, rfl, by omega, by omega, by omega, hs, S0, HR0.out.symm⟩
  case round =>
    clear S0 HR0 hs
    obtain ⟨i, s, dk, rfl, rfl, hs5, hai, hib, hds, S1, HL⟩ := hrel
    by_cases hs4 : s < 5
    · have hs4z : (s : Int) < 5 := by omega
      go_wp2
      all_goals (try (exfalso; omega))
      go_loopw [7] (fun vi wr => ∃ p : Nat, vi = .int .i64 p ∧ i ≤ p ∧ p ≤ b ∧ Hid (SW (.int .u32) w0 blk off dk wr) ∧ Hid (scanSorted ltInt dk b p = scanSorted ltInt dk b i))
        (fun vi _ => b - (intOf vi).toNat)
      case atStart => exact ⟨i, rfl, Nat.le_refl _, hib, S1, rfl⟩
      case round =>
        clear S1
        obtain ⟨p, rfl, hip, hpb, S2, HU⟩ := hrel
        obtain ⟨pm, hpm⟩ : ∃ pm, pm = p - 1 := ⟨_, rfl⟩
        have ep : (p : Int) - 1 = (pm : Int) := by omega
        have hpn : p ≠ pm := by omega
        have hpml : pm < d0.size := by omega
        have HPM : Hid (pm = p - 1) := hpm
        by_cases hlt : p < b
        · clear hpm
          obtain ⟨G, hG, hc, hf⟩ := row_facts S2.out R hds
          have hpl : p < d0.size := by omega
          go_wp2_with fail
          go_big_quiet (first | (go_at_call 97; refine Calls.quiet_of_same (less_u32 _ _ _)))
          go_wp2
          · have ht : (!ltInt (G p) (G pm)) = true := by assumption
            go_roundw
            case rel => exact ⟨p + 1, by go_num, by omega, by omega, S2.out.drewN nq, (scanS_go dk b p pm HPM.out hlt (by rw [← hG.out p, ← hG.out pm]; exact ht)).symm.trans HU.out⟩
            case measure => simp [intOf]; omega
          · have h50 : b - a < 50 := by omega
            have ht : (!ltInt (G p) (G pm)) = false := by assumption
            have HI2 : Hid (p = scanSorted ltInt dk b i) := (scanS_end dk b p pm HPM.out (.inr (by rw [← hG.out p, ← hG.out pm]; exact ht))).symm.trans HU.out
            have S5 : Hid (SW (.int .u32) w0 blk off dk (wr.drewN nq)) := S2.out.drewN nq
            clear hc hf hG ht S2 HU
            generalize wr.drewN nq = w5 at S5 ⊢
            go_wp2
            go_ret
            have e := part_false a b (4 - s) i p dk HI2.out (by omega) h50
            have h := HL.out
            rw [show 5 - s = 4 - s + 1 from by omega, e] at h
            rw [HP.out, ← h]
            exact ⟨rfl, S5.out, hds⟩
          · have h50 : ¬ b - a < 50 := by omega
            have ht : (!ltInt (G p) (G pm)) = false := by assumption
            have HI2 : Hid (p = scanSorted ltInt dk b i) := (scanS_end dk b p pm HPM.out (.inr (by rw [← hG.out p, ← hG.out pm]; exact ht))).symm.trans HU.out
            have S5 : Hid (SW (.int .u32) w0 blk off dk (wr.drewN nq)) := S2.out.drewN nq
            clear hc hf hG ht S2 HU
            generalize wr.drewN nq = w5 at S5 ⊢
            have hdq := hds
            obtain ⟨G, hG, hc, hf⟩ := row_facts S5.out R hdq
            obtain ⟨u, hu⟩ := S5.out.c2 R hdq p pm (by omega) (by omega) (.int .u32 (G pm))
            have S6 : Hid (SW (.int .u32) w0 blk off (swp dk p pm) ((w5.setCell ⟨blk, off + p, none⟩ (.int .u32 (G pm))).setCell ⟨blk, off + pm, none⟩ (.int .u32 (G p))).drew) := by
              have := S5.out.swapped R p pm (by omega) (by omega)
              rw [← hG.out p, ← hG.out pm] at this
              exact this
            clear S5
            go_wp2
            all_goals (try (exfalso; omega))
            go_region
            all_goals go_wp2
            · have ha2 : 2 ≤ p - a := by omega
              clear hc hf hG hu
              generalize ((w5.setCell ⟨blk, off + p, none⟩ (.int .u32 (G pm))).setCell ⟨blk, off + pm, none⟩ (.int .u32 (G p))).drew = w6 at S6 ⊢
              obtain ⟨d1, hd1⟩ : ∃ d1, d1 = swp dk p pm := ⟨_, rfl⟩
              have hdq1 : d1.size = d0.size := by rw [hd1, size_swp]; exact hds
              rw [← hd1] at S6
              have HD1 : Hid (d1 = swp dk p pm) := hd1
              clear hd1 hdq
              go_loopw [9] (fun vq wr => ∃ (q : Nat) (dq : Array Int), vq = .int .i64 q ∧ q ≤ pm ∧ dq.size = d0.size ∧ Hid (SW (.int .u32) w0 blk off dq wr) ∧ Hid (shiftDown ltInt q dq = shiftDown ltInt pm d1))
                (fun vq _ => (intOf vq).toNat)
              case atStart => exact ⟨pm, d1, rfl, Nat.le_refl _, hdq1, S6, rfl⟩
              case round =>
                clear S6 hdq1
                obtain ⟨q, dq, rfl, hqp, hdq, S7, HQ⟩ := hrel
                by_cases hq1 : 1 ≤ q
                · obtain ⟨qm, hqm⟩ : ∃ qm, q = qm + 1 := ⟨q - 1, by omega⟩
                  have eq1 : (q : Int) - 1 = (qm : Int) := by omega
                  have hql : q < d0.size := by omega
                  have hqml : qm < d0.size := by omega
                  have hqn : q ≠ qm := by omega
                  have hq1z : (1 : Int) ≤ (q : Int) := by omega
                  have HQM : Hid (q = qm + 1) := hqm
                  clear hqm
                  obtain ⟨G, hG, hc, hf⟩ := row_facts S7.out R hdq
                  go_wp2_with fail
                  go_big_quiet (first | (go_at_call 97; refine Calls.quiet_of_same (less_u32 _ _ _)))
                  go_wp2
                  · have ht : (!ltInt (G q) (G qm)) = true := by assumption
                    have HDQ : Hid (dq = if p - a ≥ 2 then shiftDown ltInt pm (swp dk p pm) else swp dk p pm) := by
                      show dq = _
                      rw [if_pos ha2, ← HD1.out, ← HQ.out, shD_stop dq q qm HQM.out (by rw [← hG.out q, ← hG.out qm]; exact ht)]
                    have S5 : Hid (SW (.int .u32) w0 blk off dq (wr.drewN nq)) := S7.out.drewN nq
                    clear hc hf hG ht S7 HQ
                    generalize wr.drewN nq = w7 at S5 ⊢
                    have hb2 : 2 ≤ b - p := by omega
                    obtain ⟨d2, hd2⟩ : ∃ d2, d2 = dq := ⟨_, rfl⟩
                    rw [← hd2] at S5 HDQ
                    have hdq2 : d2.size = d0.size := by rw [hd2]; exact hdq
                    have HD2 : Hid (d2 = if p - a ≥ 2 then shiftDown ltInt pm (swp dk p pm) else swp dk p pm) := HDQ
                    clear hd2 HDQ
                    go_loopw [10] (fun vr wr => ∃ (r : Nat) (dr : Array Int), vr = .int .i64 r ∧ p + 1 ≤ r ∧ r ≤ b ∧ dr.size = d0.size ∧ Hid (SW (.int .u32) w0 blk off dr wr) ∧ Hid (shiftUp ltInt b r dr = shiftUp ltInt b (p + 1) d2))
                      (fun vr _ => b - (intOf vr).toNat)
                    case atStart => exact ⟨p + 1, d2, by go_num, Nat.le_refl _, by omega, hdq2, S5, rfl⟩
                    case round =>
                      clear S5 hdq2
                      obtain ⟨r, dr, rfl, hpr, hrb, hdr, S7, HR⟩ := hrel
                      by_cases hrlt : r < b
                      · obtain ⟨G, hG, hc, hf⟩ := row_facts S7.out R hdr
                        obtain ⟨rm, hrm⟩ : ∃ rm, rm = r - 1 := ⟨_, rfl⟩
                        have er : (r : Int) - 1 = (rm : Int) := by omega
                        have hrl : r < d0.size := by omega
                        have hrml : rm < d0.size := by omega
                        have hrn : r ≠ rm := by omega
                        have HRM : Hid (rm = r - 1) := hrm
                        clear hrm
                        go_wp2_with fail
                        go_big_quiet (first | (go_at_call 97; refine Calls.quiet_of_same (less_u32 _ _ _)))
                        go_wp2
                        · have ht : (!ltInt (G r) (G rm)) = true := by assumption
                          have S5 : Hid (SW (.int .u32) w0 blk off dr (wr.drewN nq)) := S7.out.drewN nq
                          have hdz := hdr
                          have HZ : Hid (dr = if b - p ≥ 2 then shiftUp ltInt b (p + 1) d2 else d2) := by
                            show dr = _
                            rw [if_pos hb2, ← HR.out, shU_stop dr b r rm HRM.out hrlt (by rw [← hG.out r, ← hG.out rm]; exact ht)]
                          have HD3 : Hid (dr = if b - p ≥ 2 then shiftUp ltInt b (p + 1) d2 else d2) := HZ
                          go_roundw
                          case rel =>
                            refine ⟨p, s + 1, dr, rfl, by go_num, by omega, by omega, by omega, hdz, S5, ?_⟩
                            have e := part_step a b (4 - s) i p pm dk d2 dr HI2.out HPM.out (by omega) h50 HD2.out HD3.out
                            have h := HL.out
                            rw [show 5 - s = 4 - s + 1 from by omega, e] at h
                            show _ = _
                            rw [← h, show 5 - (s + 1) = 4 - s from by omega]
                          case measure => simp [intOf]; omega
                        · have ht : (!ltInt (G r) (G rm)) = false := by assumption
                          have HT : Hid (shiftUp ltInt b r dr = shiftUp ltInt b (r + 1) (swp dr r rm)) := shU_go dr b r rm HRM.out hrlt (by rw [← hG.out r, ← hG.out rm]; exact ht)
                          have S5 : Hid (SW (.int .u32) w0 blk off dr (wr.drewN nq)) := S7.out.drewN nq
                          clear hc hf hG ht S7
                          generalize wr.drewN nq = w7 at S5 ⊢
                          have hdq := hdr
                          obtain ⟨G, hG, hc, hf⟩ := row_facts S5.out R hdq
                          obtain ⟨u, hu⟩ := S5.out.c2 R hdq r rm (by omega) (by omega) (.int .u32 (G rm))
                          have S8 : Hid (SW (.int .u32) w0 blk off (swp dr r rm) ((w7.setCell ⟨blk, off + r, none⟩ (.int .u32 (G rm))).setCell ⟨blk, off + rm, none⟩ (.int .u32 (G r))).drew) := by
                            have := S5.out.swapped R r rm (by omega) (by omega)
                            rw [← hG.out r, ← hG.out rm] at this
                            exact this
                          clear S5
                          go_wp2
                          all_goals (try (exfalso; omega))
                          go_region
                          all_goals go_wp2
                          go_roundw
                          case rel => exact ⟨r + 1, swp dr r rm, by go_num, by omega, by omega, by rw [size_swp]; exact hdr, S8, HT.out.symm.trans HR.out⟩
                          case measure => simp [intOf]; omega
                      · have HZ : Hid (dr = if b - p ≥ 2 then shiftUp ltInt b (p + 1) d2 else d2) := by
                          show dr = _
                          rw [if_pos hb2, ← HR.out, shU_end dr b r hrlt]
                        have S5 := S7
                        have hdz := hdr
                        go_wp2
                        all_goals (try (exfalso; omega))
                        have HD3 : Hid (dr = if b - p ≥ 2 then shiftUp ltInt b (p + 1) d2 else d2) := HZ
                        go_roundw
                        case rel =>
                          refine ⟨p, s + 1, dr, rfl, by go_num, by omega, by omega, by omega, hdz, S5, ?_⟩
                          have e := part_step a b (4 - s) i p pm dk d2 dr HI2.out HPM.out (by omega) h50 HD2.out HD3.out
                          have h := HL.out
                          rw [show 5 - s = 4 - s + 1 from by omega, e] at h
                          show _ = _
                          rw [← h, show 5 - (s + 1) = 4 - s from by omega]
                        case measure => simp [intOf]; omega
                  · have ht : (!ltInt (G q) (G qm)) = true := by assumption
                    have HDQ : Hid (dq = if p - a ≥ 2 then shiftDown ltInt pm (swp dk p pm) else swp dk p pm) := by
                      show dq = _
                      rw [if_pos ha2, ← HD1.out, ← HQ.out, shD_stop dq q qm HQM.out (by rw [← hG.out q, ← hG.out qm]; exact ht)]
                    have S5 : Hid (SW (.int .u32) w0 blk off dq (wr.drewN nq)) := S7.out.drewN nq
                    clear hc hf hG ht S7 HQ
                    generalize wr.drewN nq = w7 at S5 ⊢
                    have hb2 : ¬ 2 ≤ b - p := by omega
                    obtain ⟨d2, hd2⟩ : ∃ d2, d2 = dq := ⟨_, rfl⟩
                    rw [← hd2] at S5 HDQ
                    have hdq2 : d2.size = d0.size := by rw [hd2]; exact hdq
                    have HD2 : Hid (d2 = if p - a ≥ 2 then shiftDown ltInt pm (swp dk p pm) else swp dk p pm) := HDQ
                    clear hd2 HDQ
                    have HZ : Hid (d2 = if b - p ≥ 2 then shiftUp ltInt b (p + 1) d2 else d2) := by
                      show d2 = _
                      rw [if_neg (by omega)]
                    have hdz := hdq2
                    have HD3 : Hid (d2 = if b - p ≥ 2 then shiftUp ltInt b (p + 1) d2 else d2) := HZ
                    go_roundw
                    case rel =>
                      refine ⟨p, s + 1, d2, rfl, by go_num, by omega, by omega, by omega, hdz, S5, ?_⟩
                      have e := part_step a b (4 - s) i p pm dk d2 d2 HI2.out HPM.out (by omega) h50 HD2.out HD3.out
                      have h := HL.out
                      rw [show 5 - s = 4 - s + 1 from by omega, e] at h
                      show _ = _
                      rw [← h, show 5 - (s + 1) = 4 - s from by omega]
                    case measure => simp [intOf]; omega
                  · have ht : (!ltInt (G q) (G qm)) = false := by assumption
                    have HT : Hid (shiftDown ltInt q dq = shiftDown ltInt qm (swp dq q qm)) := shD_go dq q qm HQM.out (by rw [← hG.out q, ← hG.out qm]; exact ht)
                    have S5 : Hid (SW (.int .u32) w0 blk off dq (wr.drewN nq)) := S7.out.drewN nq
                    clear hc hf hG ht S7
                    generalize wr.drewN nq = w7 at S5 ⊢
                    obtain ⟨G, hG, hc, hf⟩ := row_facts S5.out R hdq
                    obtain ⟨u, hu⟩ := S5.out.c2 R hdq q qm (by omega) (by omega) (.int .u32 (G qm))
                    have S8 : Hid (SW (.int .u32) w0 blk off (swp dq q qm) ((w7.setCell ⟨blk, off + q, none⟩ (.int .u32 (G qm))).setCell ⟨blk, off + qm, none⟩ (.int .u32 (G q))).drew) := by
                      have := S5.out.swapped R q qm (by omega) (by omega)
                      rw [← hG.out q, ← hG.out qm] at this
                      exact this
                    clear S5
                    go_wp2
                    all_goals (try (exfalso; omega))
                    go_region
                    all_goals go_wp2
                    go_roundw
                    case rel => exact ⟨qm, swp dq q qm, rfl, by omega, by rw [size_swp]; exact hdq, S8, HT.out.symm.trans HQ.out⟩
                    case measure => simp [intOf]; have := HQM.out; omega
                · have HDQ : Hid (dq = if p - a ≥ 2 then shiftDown ltInt pm (swp dk p pm) else swp dk p pm) := by
                    show dq = _
                    rw [if_pos ha2, ← HD1.out, ← HQ.out, show q = 0 from by omega]
                    exact rfl
                  have S5 := S7
                  clear S7 HQ
                  go_wp2
                  all_goals (try (exfalso; omega))
                  · have hb2 : 2 ≤ b - p := by omega
                    obtain ⟨d2, hd2⟩ : ∃ d2, d2 = dq := ⟨_, rfl⟩
                    rw [← hd2] at S5 HDQ
                    have hdq2 : d2.size = d0.size := by rw [hd2]; exact hdq
                    have HD2 : Hid (d2 = if p - a ≥ 2 then shiftDown ltInt pm (swp dk p pm) else swp dk p pm) := HDQ
                    clear hd2 HDQ
                    go_loopw [10] (fun vr wr => ∃ (r : Nat) (dr : Array Int), vr = .int .i64 r ∧ p + 1 ≤ r ∧ r ≤ b ∧ dr.size = d0.size ∧ Hid (SW (.int .u32) w0 blk off dr wr) ∧ Hid (shiftUp ltInt b r dr = shiftUp ltInt b (p + 1) d2))
                      (fun vr _ => b - (intOf vr).toNat)
                    case atStart => exact ⟨p + 1, d2, by go_num, Nat.le_refl _, by omega, hdq2, S5, rfl⟩
                    case round =>
                      clear S5 hdq2
                      obtain ⟨r, dr, rfl, hpr, hrb, hdr, S7, HR⟩ := hrel
                      by_cases hrlt : r < b
                      · obtain ⟨G, hG, hc, hf⟩ := row_facts S7.out R hdr
                        obtain ⟨rm, hrm⟩ : ∃ rm, rm = r - 1 := ⟨_, rfl⟩
                        have er : (r : Int) - 1 = (rm : Int) := by omega
                        have hrl : r < d0.size := by omega
                        have hrml : rm < d0.size := by omega
                        have hrn : r ≠ rm := by omega
                        have HRM : Hid (rm = r - 1) := hrm
                        clear hrm
                        go_wp2_with fail
                        go_big_quiet (first | (go_at_call 97; refine Calls.quiet_of_same (less_u32 _ _ _)))
                        go_wp2
                        · have ht : (!ltInt (G r) (G rm)) = true := by assumption
                          have S5 : Hid (SW (.int .u32) w0 blk off dr (wr.drewN nq)) := S7.out.drewN nq
                          have hdz := hdr
                          have HZ : Hid (dr = if b - p ≥ 2 then shiftUp ltInt b (p + 1) d2 else d2) := by
                            show dr = _
                            rw [if_pos hb2, ← HR.out, shU_stop dr b r rm HRM.out hrlt (by rw [← hG.out r, ← hG.out rm]; exact ht)]
                          have HD3 : Hid (dr = if b - p ≥ 2 then shiftUp ltInt b (p + 1) d2 else d2) := HZ
                          go_roundw
                          case rel =>
                            refine ⟨p, s + 1, dr, rfl, by go_num, by omega, by omega, by omega, hdz, S5, ?_⟩
                            have e := part_step a b (4 - s) i p pm dk d2 dr HI2.out HPM.out (by omega) h50 HD2.out HD3.out
                            have h := HL.out
                            rw [show 5 - s = 4 - s + 1 from by omega, e] at h
                            show _ = _
                            rw [← h, show 5 - (s + 1) = 4 - s from by omega]
                          case measure => simp [intOf]; omega
                        · have ht : (!ltInt (G r) (G rm)) = false := by assumption
                          have HT : Hid (shiftUp ltInt b r dr = shiftUp ltInt b (r + 1) (swp dr r rm)) := shU_go dr b r rm HRM.out hrlt (by rw [← hG.out r, ← hG.out rm]; exact ht)
                          have S5 : Hid (SW (.int .u32) w0 blk off dr (wr.drewN nq)) := S7.out.drewN nq
                          clear hc hf hG ht S7
                          generalize wr.drewN nq = w7 at S5 ⊢
                          have hdq := hdr
                          obtain ⟨G, hG, hc, hf⟩ := row_facts S5.out R hdq
                          obtain ⟨u, hu⟩ := S5.out.c2 R hdq r rm (by omega) (by omega) (.int .u32 (G rm))
                          have S8 : Hid (SW (.int .u32) w0 blk off (swp dr r rm) ((w7.setCell ⟨blk, off + r, none⟩ (.int .u32 (G rm))).setCell ⟨blk, off + rm, none⟩ (.int .u32 (G r))).drew) := by
                            have := S5.out.swapped R r rm (by omega) (by omega)
                            rw [← hG.out r, ← hG.out rm] at this
                            exact this
                          clear S5
                          go_wp2
                          all_goals (try (exfalso; omega))
                          go_region
                          all_goals go_wp2
                          go_roundw
                          case rel => exact ⟨r + 1, swp dr r rm, by go_num, by omega, by omega, by rw [size_swp]; exact hdr, S8, HT.out.symm.trans HR.out⟩
                          case measure => simp [intOf]; omega
                      · have HZ : Hid (dr = if b - p ≥ 2 then shiftUp ltInt b (p + 1) d2 else d2) := by
                          show dr = _
                          rw [if_pos hb2, ← HR.out, shU_end dr b r hrlt]
                        have S5 := S7
                        have hdz := hdr
                        go_wp2
                        all_goals (try (exfalso; omega))
                        have HD3 : Hid (dr = if b - p ≥ 2 then shiftUp ltInt b (p + 1) d2 else d2) := HZ
                        go_roundw
                        case rel =>
                          refine ⟨p, s + 1, dr, rfl, by go_num, by omega, by omega, by omega, hdz, S5, ?_⟩
                          have e := part_step a b (4 - s) i p pm dk d2 dr HI2.out HPM.out (by omega) h50 HD2.out HD3.out
                          have h := HL.out
                          rw [show 5 - s = 4 - s + 1 from by omega, e] at h
                          show _ = _
                          rw [← h, show 5 - (s + 1) = 4 - s from by omega]
                        case measure => simp [intOf]; omega
                  · have hb2 : ¬ 2 ≤ b - p := by omega
                    obtain ⟨d2, hd2⟩ : ∃ d2, d2 = dq := ⟨_, rfl⟩
                    rw [← hd2] at S5 HDQ
                    have hdq2 : d2.size = d0.size := by rw [hd2]; exact hdq
                    have HD2 : Hid (d2 = if p - a ≥ 2 then shiftDown ltInt pm (swp dk p pm) else swp dk p pm) := HDQ
                    clear hd2 HDQ
                    have HZ : Hid (d2 = if b - p ≥ 2 then shiftUp ltInt b (p + 1) d2 else d2) := by
                      show d2 = _
                      rw [if_neg (by omega)]
                    have hdz := hdq2
                    have HD3 : Hid (d2 = if b - p ≥ 2 then shiftUp ltInt b (p + 1) d2 else d2) := HZ
                    go_roundw
                    case rel =>
                      refine ⟨p, s + 1, d2, rfl, by go_num, by omega, by omega, by omega, hdz, S5, ?_⟩
                      have e := part_step a b (4 - s) i p pm dk d2 d2 HI2.out HPM.out (by omega) h50 HD2.out HD3.out
                      have h := HL.out
                      rw [show 5 - s = 4 - s + 1 from by omega, e] at h
                      show _ = _
                      rw [← h, show 5 - (s + 1) = 4 - s from by omega]
                    case measure => simp [intOf]; omega
            · clear hc hf hG hu
              generalize ((w5.setCell ⟨blk, off + p, none⟩ (.int .u32 (G pm))).setCell ⟨blk, off + pm, none⟩ (.int .u32 (G p))).drew = w6 at S6 ⊢
              obtain ⟨d1, hd1⟩ : ∃ d1, d1 = swp dk p pm := ⟨_, rfl⟩
              have hdq1 : d1.size = d0.size := by rw [hd1, size_swp]; exact hds
              rw [← hd1] at S6
              have HD1 : Hid (d1 = swp dk p pm) := hd1
              clear hd1 hdq
              have ha2 : ¬ 2 ≤ p - a := by omega
              have HDQ : Hid (d1 = if p - a ≥ 2 then shiftDown ltInt pm (swp dk p pm) else swp dk p pm) := by
                show d1 = _
                rw [if_neg (by omega)]
                exact HD1.out
              have S5 := S6
              have hdq := hdq1
              clear S6 hdq1
              have hb2 : 2 ≤ b - p := by omega
              obtain ⟨d2, hd2⟩ : ∃ d2, d2 = d1 := ⟨_, rfl⟩
              rw [← hd2] at S5 HDQ
              have hdq2 : d2.size = d0.size := by rw [hd2]; exact hdq
              have HD2 : Hid (d2 = if p - a ≥ 2 then shiftDown ltInt pm (swp dk p pm) else swp dk p pm) := HDQ
              clear hd2 HDQ
              go_loopw [10] (fun vr wr => ∃ (r : Nat) (dr : Array Int), vr = .int .i64 r ∧ p + 1 ≤ r ∧ r ≤ b ∧ dr.size = d0.size ∧ Hid (SW (.int .u32) w0 blk off dr wr) ∧ Hid (shiftUp ltInt b r dr = shiftUp ltInt b (p + 1) d2))
                (fun vr _ => b - (intOf vr).toNat)
              case atStart => exact ⟨p + 1, d2, by go_num, Nat.le_refl _, by omega, hdq2, S5, rfl⟩
              case round =>
                clear S5 hdq2
                obtain ⟨r, dr, rfl, hpr, hrb, hdr, S7, HR⟩ := hrel
                by_cases hrlt : r < b
                · obtain ⟨G, hG, hc, hf⟩ := row_facts S7.out R hdr
                  obtain ⟨rm, hrm⟩ : ∃ rm, rm = r - 1 := ⟨_, rfl⟩
                  have er : (r : Int) - 1 = (rm : Int) := by omega
                  have hrl : r < d0.size := by omega
                  have hrml : rm < d0.size := by omega
                  have hrn : r ≠ rm := by omega
                  have HRM : Hid (rm = r - 1) := hrm
                  clear hrm
                  go_wp2_with fail
                  go_big_quiet (first | (go_at_call 97; refine Calls.quiet_of_same (less_u32 _ _ _)))
                  go_wp2
                  · have ht : (!ltInt (G r) (G rm)) = true := by assumption
                    have S5 : Hid (SW (.int .u32) w0 blk off dr (wr.drewN nq)) := S7.out.drewN nq
                    have hdz := hdr
                    have HZ : Hid (dr = if b - p ≥ 2 then shiftUp ltInt b (p + 1) d2 else d2) := by
                      show dr = _
                      rw [if_pos hb2, ← HR.out, shU_stop dr b r rm HRM.out hrlt (by rw [← hG.out r, ← hG.out rm]; exact ht)]
                    have HD3 : Hid (dr = if b - p ≥ 2 then shiftUp ltInt b (p + 1) d2 else d2) := HZ
                    go_roundw
                    case rel =>
                      refine ⟨p, s + 1, dr, rfl, by go_num, by omega, by omega, by omega, hdz, S5, ?_⟩
                      have e := part_step a b (4 - s) i p pm dk d2 dr HI2.out HPM.out (by omega) h50 HD2.out HD3.out
                      have h := HL.out
                      rw [show 5 - s = 4 - s + 1 from by omega, e] at h
                      show _ = _
                      rw [← h, show 5 - (s + 1) = 4 - s from by omega]
                    case measure => simp [intOf]; omega
                  · have ht : (!ltInt (G r) (G rm)) = false := by assumption
                    have HT : Hid (shiftUp ltInt b r dr = shiftUp ltInt b (r + 1) (swp dr r rm)) := shU_go dr b r rm HRM.out hrlt (by rw [← hG.out r, ← hG.out rm]; exact ht)
                    have S5 : Hid (SW (.int .u32) w0 blk off dr (wr.drewN nq)) := S7.out.drewN nq
                    clear hc hf hG ht S7
                    generalize wr.drewN nq = w7 at S5 ⊢
                    have hdq := hdr
                    obtain ⟨G, hG, hc, hf⟩ := row_facts S5.out R hdq
                    obtain ⟨u, hu⟩ := S5.out.c2 R hdq r rm (by omega) (by omega) (.int .u32 (G rm))
                    have S8 : Hid (SW (.int .u32) w0 blk off (swp dr r rm) ((w7.setCell ⟨blk, off + r, none⟩ (.int .u32 (G rm))).setCell ⟨blk, off + rm, none⟩ (.int .u32 (G r))).drew) := by
                      have := S5.out.swapped R r rm (by omega) (by omega)
                      rw [← hG.out r, ← hG.out rm] at this
                      exact this
                    clear S5
                    go_wp2
                    all_goals (try (exfalso; omega))
                    go_region
                    all_goals go_wp2
                    go_roundw
                    case rel => exact ⟨r + 1, swp dr r rm, by go_num, by omega, by omega, by rw [size_swp]; exact hdr, S8, HT.out.symm.trans HR.out⟩
                    case measure => simp [intOf]; omega
                · have HZ : Hid (dr = if b - p ≥ 2 then shiftUp ltInt b (p + 1) d2 else d2) := by
                    show dr = _
                    rw [if_pos hb2, ← HR.out, shU_end dr b r hrlt]
                  have S5 := S7
                  have hdz := hdr
                  go_wp2
                  all_goals (try (exfalso; omega))
                  have HD3 : Hid (dr = if b - p ≥ 2 then shiftUp ltInt b (p + 1) d2 else d2) := HZ
                  go_roundw
                  case rel =>
                    refine ⟨p, s + 1, dr, rfl, by go_num, by omega, by omega, by omega, hdz, S5, ?_⟩
                    have e := part_step a b (4 - s) i p pm dk d2 dr HI2.out HPM.out (by omega) h50 HD2.out HD3.out
                    have h := HL.out
                    rw [show 5 - s = 4 - s + 1 from by omega, e] at h
                    show _ = _
                    rw [← h, show 5 - (s + 1) = 4 - s from by omega]
                  case measure => simp [intOf]; omega
        · have HI2 : Hid (p = scanSorted ltInt dk b i) := (scanS_end dk b p pm hpm (.inl hlt)).symm.trans HU.out
          have hpe : p = b := by omega
          clear hpm
          go_wp2_with fail
          go_big_quiet (fail)
          have S5 : Hid (SW (.int .u32) w0 blk off dk (wr.drewN nq)) := S2.out.drewN nq
          clear S2 HU
          generalize wr.drewN nq = w5 at S5 ⊢
          have hpez : (p : Int) = (b : Int) := by omega
          go_wp2
          all_goals (try (exfalso; omega))
          go_ret
          have e := part_true a b (4 - s) i p dk HI2.out hpe
          have h := HL.out
          rw [show 5 - s = 4 - s + 1 from by omega, e] at h
          rw [HP.out, ← h]
          exact ⟨rfl, S5.out, hds⟩
    · have hs4z : decide ((s : Int) < 5) = false := decide_eq_false (by omega)
      go_wp2
      all_goals (try (exfalso; omega))
      go_ret
      have h := HL.out
      rw [show 5 - s = 0 from by omega] at h
      rw [HP.out, ← h]
      exact ⟨rfl, S1.out, hds⟩
theorem cnt_drewN {w0 W : World} {blk off c s : Nat} {dk : Array Int} (h : Cnt1 (.int .u32) w0 blk off dk c s W) (n : Nat) : Cnt1 (.int .u32) w0 blk off dk c s (W.drewN n) := by
  have := h.grown n #[]
  rwa [grow_empty] at this
set_option maxHeartbeats 4000000 in
set_option maxRecDepth 100000 in
theorem order2_u32 (blk off cap a b c s p q t : Nat) (d0 dk : Array Int) (w0 w : World) (R : Row1 (.int .u32) w0 blk off d0) (hs : dk.size = d0.size) (C : Cnt1 (.int .u32) w0 blk off dk c s w) (ha : a < d0.size) (hb : b < d0.size) (hs9 : s < 1000) (hsz : d0.size < 4611686018427387904)
    (hr : order2 ltInt dk a b s = (p, q, t)) :
    Calls Try.prog 131 #[.slice (some ⟨blk, off, none⟩) d0.size cap, .int .i64 a, .int .i64 b, .pointer (some ⟨c, 0, none⟩)] w fun e w' => e = .returned (.tuple #[.int .i64 p, .int .i64 q]) ∧ Cnt1 (.int .u32) w0 blk off dk c t w' := by
  obtain ⟨G, hG, hc, hf⟩ := row_facts C.1 R hs
  have hcc := C.2.1
  have hcf := C.2.2.1
  have C0 : Hid (Cnt1 (.int .u32) w0 blk off dk c s w) := C
  have HR : Hid (order2 ltInt dk a b s = (p, q, t)) := hr
  clear C hr
  go_enter Try.func131, Try.ntmps131
  go_wp2_with fail
  go_big_quiet (first | (go_at_call 97; refine Calls.quiet_of_same (less_u32 _ _ _)))
  go_wp2
  · have ht : ltInt (G b) (G a) = true := by assumption
    have e := HR.out
    unfold order2 at e
    rw [← hG.out b, ← hG.out a, if_pos ht] at e
    obtain ⟨rfl, e2⟩ := Prod.mk.inj e
    obtain ⟨rfl, rfl⟩ := Prod.mk.inj e2
    go_ret2
    refine ⟨rfl, ?_⟩
    have := (cnt_drewN C0.out nq).bump (s + 1)
    simpa using this
  · have ht : ltInt (G b) (G a) = false := by assumption
    have e := HR.out
    unfold order2 at e
    rw [← hG.out b, ← hG.out a, if_neg (by rw [ht]; simp)] at e
    obtain ⟨rfl, e2⟩ := Prod.mk.inj e
    obtain ⟨rfl, rfl⟩ := Prod.mk.inj e2
    go_ret2
    exact ⟨rfl, cnt_drewN C0.out nq⟩
theorem order2_in (dk : Array Int) (a b s p q t : Nat) (hr : order2 ltInt dk a b s = (p, q, t)) : ((p = a ∧ q = b) ∨ (p = b ∧ q = a)) ∧ t ≤ s + 1 := by
  have h1 := order2_mem ltInt dk a b s
  have h2 := order2_count (lt := ltInt) dk a b s
  rw [hr] at h1 h2
  exact ⟨h1, h2⟩
set_option maxHeartbeats 4000000 in
set_option maxRecDepth 100000 in
theorem median_u32 (blk off cap a b e0 c s m t : Nat) (d0 dk : Array Int) (w0 w : World) (R : Row1 (.int .u32) w0 blk off d0) (hs : dk.size = d0.size) (C : Cnt1 (.int .u32) w0 blk off dk c s w) (ha : a < d0.size) (hb : b < d0.size) (he : e0 < d0.size) (hs9 : s < 900) (hsz : d0.size < 4611686018427387904)
    (hr : median ltInt dk a b e0 s = (m, t)) :
    Calls Try.prog 123 #[.slice (some ⟨blk, off, none⟩) d0.size cap, .int .i64 a, .int .i64 b, .int .i64 e0, .pointer (some ⟨c, 0, none⟩)] w fun e w' => e = .returned (.int .i64 m) ∧ Cnt1 (.int .u32) w0 blk off dk c t w' := by
  obtain ⟨⟨p1, q1, s1⟩, h1⟩ : ∃ r, order2 ltInt dk a b s = r := ⟨_, rfl⟩
  obtain ⟨⟨p2, q2, s2⟩, h2⟩ : ∃ r, order2 ltInt dk q1 e0 s1 = r := ⟨_, rfl⟩
  obtain ⟨⟨p3, q3, s3⟩, h3⟩ : ∃ r, order2 ltInt dk p1 p2 s2 = r := ⟨_, rfl⟩
  have hm : m = q3 ∧ t = s3 := by
    unfold median at hr
    rw [h1] at hr
    simp only [] at hr
    rw [h2] at hr
    simp only [] at hr
    rw [h3] at hr
    exact ⟨(Prod.mk.inj hr).1.symm, (Prod.mk.inj hr).2.symm⟩
  obtain ⟨rfl, rfl⟩ := hm
  clear hr
  obtain ⟨i1, c1⟩ := order2_in dk a b s p1 q1 s1 h1
  obtain ⟨i2, c2⟩ := order2_in dk q1 e0 s1 p2 q2 s2 h2
  have hp1 : p1 < d0.size := by omega
  have hq1 : q1 < d0.size := by omega
  have hp2 : p2 < d0.size := by omega
  have HK1 := Hid.mk' (order2_u32 blk off cap a b c s p1 q1 s1 d0 dk w0 w R hs C ha hb (by omega) hsz h1)
  have HK2 := Hid.mk' (fun w1 C1 => order2_u32 blk off cap q1 e0 c s1 p2 q2 s2 d0 dk w0 w1 R hs C1 hq1 he (by omega) hsz h2)
  have HK3 := Hid.mk' (fun w1 C1 => order2_u32 blk off cap p1 p2 c s2 p3 m t d0 dk w0 w1 R hs C1 hp1 hp2 (by omega) hsz h3)
  clear C i1 i2
  go_enter Try.func123, Try.ntmps123
  go_wp2_with fail
  refine HK1.out.mono ?_
  rintro e w1 ⟨rfl, g1⟩
  have C1 := Hid.mk' g1
  clear g1
  go_wp2_with fail
  refine (HK2.out _ C1.out).mono ?_
  rintro e w2 ⟨rfl, g1⟩
  have C2 := Hid.mk' g1
  clear g1
  go_wp2_with fail
  refine (HK3.out _ C2.out).mono ?_
  rintro e w3 ⟨rfl, g1⟩
  have C3 := Hid.mk' g1
  clear g1
  go_wp2
  go_ret
  exact ⟨rfl, C3.out⟩
set_option maxHeartbeats 4000000 in
set_option maxRecDepth 100000 in
theorem medAdj_u32 (blk off cap a c s m t : Nat) (d0 dk : Array Int) (w0 w : World) (R : Row1 (.int .u32) w0 blk off d0) (hs : dk.size = d0.size) (C : Cnt1 (.int .u32) w0 blk off dk c s w) (ha : 1 ≤ a) (hb : a + 1 < d0.size) (hs9 : s < 900) (hsz : d0.size < 4611686018427387904)
    (hr : medianAdjacent ltInt dk a s = (m, t)) :
    Calls Try.prog 122 #[.slice (some ⟨blk, off, none⟩) d0.size cap, .int .i64 a, .pointer (some ⟨c, 0, none⟩)] w fun e w' => e = .returned (.int .i64 m) ∧ Cnt1 (.int .u32) w0 blk off dk c t w' := by
  obtain ⟨am, ham⟩ : ∃ am, am = a - 1 := ⟨_, rfl⟩
  obtain ⟨ap, hap⟩ : ∃ ap, ap = a + 1 := ⟨_, rfl⟩
  have e1 : (a : Int) - 1 = (am : Int) := by omega
  have e2 : (a : Int) + 1 = (ap : Int) := by omega
  have HK := Hid.mk' (median_u32 blk off cap am a ap c s m t d0 dk w0 w R hs C (by omega) (by omega) (by omega) hs9 hsz (by rw [ham, hap]; exact hr))
  clear C hr ham hap
  go_enter Try.func122, Try.ntmps122
  go_wp2_with fail
  refine HK.out.mono ?_
  rintro e w1 ⟨rfl, g1⟩
  have C1 := Hid.mk' g1
  clear g1
  go_wp2
  go_ret
  exact ⟨rfl, C1.out⟩
def hintT (t : Nat) : Hint := if t = 0 then .increasing else if t = 12 then .decreasing else .unknown
def hintZ : Hint → Int
  | .unknown => 0
  | .increasing => 1
  | .decreasing => 2
theorem piv_big (d : Array Int) (a b q i' s1 j' s2 k' s3 m t : Nat) (hq : q = (b - a) / 4) (h : 50 ≤ b - a) (h1 : medianAdjacent ltInt d (a + q * 1) 0 = (i', s1)) (h2 : medianAdjacent ltInt d (a + q * 2) s1 = (j', s2)) (h3 : medianAdjacent ltInt d (a + q * 3) s2 = (k', s3)) (h4 : median ltInt d i' j' k' s3 = (m, t)) :
    choosePivot ltInt d a b = (m, hintT t) := by
  subst hq
  unfold choosePivot
  simp only []
  rw [if_pos (by omega), if_pos (by omega), h1]
  simp only []
  rw [h2]
  simp only []
  rw [h3]
  simp only []
  rw [h4]
  rfl
theorem piv_small (d : Array Int) (a b q m t : Nat) (hq : q = (b - a) / 4) (h8 : 8 ≤ b - a) (h : ¬ 50 ≤ b - a) (h4 : median ltInt d (a + q * 1) (a + q * 2) (a + q * 3) 0 = (m, t)) :
    choosePivot ltInt d a b = (m, hintT t) := by
  subst hq
  unfold choosePivot
  simp only []
  rw [if_pos (by omega), if_neg (by omega), h4]
  rfl
theorem adj_in (d : Array Int) (a s m t : Nat) (h : medianAdjacent ltInt d a s = (m, t)) : (m = a - 1 ∨ m = a ∨ m = a + 1) ∧ t ≤ s + 3 := by
  have h1 := medianAdjacent_mem ltInt d a s
  have h2 := medianAdjacent_count (lt := ltInt) d a s
  rw [h] at h1 h2
  exact ⟨h1, h2⟩
set_option maxHeartbeats 8000000 in
set_option maxRecDepth 100000 in
theorem pivot_u32 (blk off cap a b : Nat) (d0 dk : Array Int) (w0 w : World) (R : Row1 (.int .u32) w0 blk off d0) (hs : dk.size = d0.size) (S : SW (.int .u32) w0 blk off dk w) (h8 : 8 ≤ b - a) (hb : b ≤ d0.size) (hsz : d0.size < 4611686018427387904) :
    Calls Try.prog 94 #[.slice (some ⟨blk, off, none⟩) d0.size cap, .int .i64 a, .int .i64 b] w fun e w' => e = .returned (.tuple #[.int .i64 (choosePivot ltInt dk a b).1, .int .i64 (hintZ (choosePivot ltInt dk a b).2)]) ∧ SW (.int .u32) w0 blk off dk w' := by
  obtain ⟨l, hl⟩ : ∃ l, l = b - a := ⟨_, rfl⟩
  obtain ⟨q, hq⟩ : ∃ q, q = l / 4 := ⟨_, rfl⟩
  have el : (b : Int) - (a : Int) = (l : Int) := by omega
  have eq4 : (l : Int).tdiv 4 = (q : Int) := by rw [Int.tdiv_eq_ediv_of_nonneg (by omega)]; omega
  obtain ⟨i, hi⟩ : ∃ i, i = a + q * 1 := ⟨_, rfl⟩
  obtain ⟨j, hj⟩ : ∃ j, j = a + q * 2 := ⟨_, rfl⟩
  obtain ⟨k, hk⟩ : ∃ k, k = a + q * 3 := ⟨_, rfl⟩
  have ei : (a : Int) + (q : Int) = (i : Int) := by omega
  have ej : (a : Int) + (q : Int) * 2 = (j : Int) := by omega
  have ek : (a : Int) + (q : Int) * 3 = (k : Int) := by omega
  have hq2 : 2 ≤ q := by omega
  have hkb : k + 1 < b := by omega
  have hij : i < j ∧ j < k ∧ 1 ≤ i ∧ 1 ≤ j ∧ 1 ≤ k := by omega
  have hl8 : (8 : Int) ≤ (l : Int) := by omega
  have C0 := Hid.mk' (Cnt1.start S 3)
  have HQ : Hid (q = (b - a) / 4 ∧ l = b - a ∧ i = a + q * 1 ∧ j = a + q * 2 ∧ k = a + q * 3) := ⟨by rw [hq, hl], hl, hi, hj, hk⟩
  have hql : q ≤ l := by omega
  have hll : l < 4611686018427387904 := by omega
  clear hl hq hi hj hk
  obtain ⟨h1, h2, h3, h4, h5⟩ := hij
  obtain ⟨c, hc⟩ : ∃ c, c = w.heap.size := ⟨_, rfl⟩
  by_cases h50 : 50 ≤ b - a
  · obtain ⟨⟨i', s1⟩, r1⟩ : ∃ r, medianAdjacent ltInt dk i 0 = r := ⟨_, rfl⟩
    obtain ⟨⟨j', s2⟩, r2⟩ : ∃ r, medianAdjacent ltInt dk j s1 = r := ⟨_, rfl⟩
    obtain ⟨⟨k', s3⟩, r3⟩ : ∃ r, medianAdjacent ltInt dk k s2 = r := ⟨_, rfl⟩
    obtain ⟨⟨m, t⟩, r4⟩ : ∃ r, median ltInt dk i' j' k' s3 = r := ⟨_, rfl⟩
    obtain ⟨n1, c1⟩ := adj_in dk i 0 i' s1 r1
    obtain ⟨n2, c2⟩ := adj_in dk j s1 j' s2 r2
    obtain ⟨n3, c3⟩ := adj_in dk k s2 k' s3 r3
    have HCH : Hid (choosePivot ltInt dk a b = (m, hintT t)) := by
      obtain ⟨q1, q2, q3, q4, q5⟩ := HQ.out
      exact piv_big dk a b q i' s1 j' s2 k' s3 m t q1 h50 (by rw [← q3]; exact r1) (by rw [← q4]; exact r2) (by rw [← q5]; exact r3) r4
    have HK1 := Hid.mk' (fun w1 C1 => medAdj_u32 blk off cap i w.heap.size 0 i' s1 d0 dk w0 w1 R hs C1 (by omega) (by omega) (by omega) hsz r1)
    have HK2 := Hid.mk' (fun w1 C1 => medAdj_u32 blk off cap j w.heap.size s1 j' s2 d0 dk w0 w1 R hs C1 (by omega) (by omega) (by omega) hsz r2)
    have HK3 := Hid.mk' (fun w1 C1 => medAdj_u32 blk off cap k w.heap.size s2 k' s3 d0 dk w0 w1 R hs C1 (by omega) (by omega) (by omega) hsz r3)
    have HK4 := Hid.mk' (fun w1 C1 => median_u32 blk off cap i' j' k' w.heap.size s3 m t d0 dk w0 w1 R hs C1 (by omega) (by omega) (by omega) (by omega) hsz r4)
    have hl50 : (50 : Int) ≤ (l : Int) := by have := HQ.out.2.1; omega
    clear n1 n2 n3 c1 c2 c3 S
    go_enter Try.func94, Try.ntmps94
    go_wp2_with fail
    all_goals (try (exfalso; omega))
    refine (HK1.out _ C0.out).mono ?_
    rintro e w1 ⟨rfl, g1⟩
    have C1 := Hid.mk' g1
    clear g1 C0
    go_wp2_with fail
    refine (HK2.out _ C1.out).mono ?_
    rintro e w2 ⟨rfl, g1⟩
    have C2 := Hid.mk' g1
    clear g1
    go_wp2_with fail
    refine (HK3.out _ C2.out).mono ?_
    rintro e w3 ⟨rfl, g1⟩
    have C3 := Hid.mk' g1
    clear g1
    go_wp2_with fail
    refine (HK4.out _ C3.out).mono ?_
    rintro e w4 ⟨rfl, g1⟩
    have C4 := Hid.mk' g1
    clear g1
    have hcc := C4.out.2.1
    have hcf := C4.out.2.2.1
    by_cases ht0 : t = 0
    · subst ht0
      go_wp2
      go_ret2
      rw [HCH.out]
      exact ⟨rfl, C4.out.1⟩
    · by_cases ht1 : t = 12
      · subst ht1
        go_wp2
        go_ret2
        rw [HCH.out]
        exact ⟨rfl, C4.out.1⟩
      · have t0z : ¬ (t : Int) = 0 := by omega
        have t1z : ¬ (t : Int) = 12 := by omega
        go_wp2
        all_goals (try (exfalso; omega))
        go_ret2
        rw [HCH.out, show hintT t = .unknown from by unfold hintT; rw [if_neg ht0, if_neg ht1]]
        exact ⟨rfl, C4.out.1⟩
  · obtain ⟨⟨m, t⟩, r4⟩ : ∃ r, median ltInt dk i j k 0 = r := ⟨_, rfl⟩
    have HCH : Hid (choosePivot ltInt dk a b = (m, hintT t)) := by
      obtain ⟨q1, q2, q3, q4, q5⟩ := HQ.out
      exact piv_small dk a b q m t q1 h8 h50 (by rw [← q3, ← q4, ← q5]; exact r4)
    have HK4 := Hid.mk' (fun w1 C1 => median_u32 blk off cap i j k w.heap.size 0 m t d0 dk w0 w1 R hs C1 (by omega) (by omega) (by omega) (by omega) hsz r4)
    have hl50 : ¬ (50 : Int) ≤ (l : Int) := by have := HQ.out.2.1; omega
    clear S
    go_enter Try.func94, Try.ntmps94
    go_wp2_with fail
    all_goals (try (exfalso; omega))
    refine (HK4.out _ C0.out).mono ?_
    rintro e w4 ⟨rfl, g1⟩
    have C4 := Hid.mk' g1
    clear g1 C0
    have hcc := C4.out.2.1
    have hcf := C4.out.2.2.1
    by_cases ht0 : t = 0
    · subst ht0
      go_wp2
      go_ret2
      rw [HCH.out]
      exact ⟨rfl, C4.out.1⟩
    · by_cases ht1 : t = 12
      · subst ht1
        go_wp2
        go_ret2
        rw [HCH.out]
        exact ⟨rfl, C4.out.1⟩
      · have t0z : ¬ (t : Int) = 0 := by omega
        have t1z : ¬ (t : Int) = 12 := by omega
        go_wp2
        all_goals (try (exfalso; omega))
        go_ret2
        rw [HCH.out, show hintT t = .unknown from by unfold hintT; rw [if_neg ht0, if_neg ht1]]
        exact ⟨rfl, C4.out.1⟩
def lay_next_ren : Go.Shelf.Ren := ⟨fun | 48 => 110 | n => n, fun | 76 => 139 | 55 => 81 | 0 => 0 | 66 => 124 | 39 => 93 | n => n, fun n => n⟩
theorem lay_next : SlLaysF0.n48 Try.prog lay_next_ren := {
  mixed := by kernel_rfl,
  f48 := Try.func110.trans (congrArg some (by kernel_rfl)),
  t0 := Try.underlying0,
  a0 := Try.isAgg0,
  z0 := Try.sizeOf0,
  v0 := Try.zeroValue0,
  t39 := Try.underlying93,
  a39 := Try.isAgg93,
  z39 := Try.sizeOf93,
  v39 := Try.zeroValue93,
  t55 := Try.underlying81,
  a55 := Try.isAgg81,
  z55 := Try.sizeOf81,
  v55 := Try.zeroValue81,
  t66 := Try.underlying124,
  a66 := Try.isAgg124,
  z66 := Try.sizeOf124,
  v66 := Try.zeroValue124,
  t76 := Try.underlying139,
  a76 := Try.isAgg139,
  z76 := Try.sizeOf139,
  v76 := Try.zeroValue139 }

def lay_npot_ren : Go.Shelf.Ren := ⟨fun | 47 => 109 | 15 => 71 | 28 => 88 | 29 => 89 | n => n, fun | 3 => 3 | 39 => 93 | 53 => 33 | 55 => 81 | 4 => 4 | 5 => 5 | 9 => 9 | n => n, fun n => n⟩
theorem lay_npot : SlLaysF0.n47 Try.prog lay_npot_ren := {
  mixed := by kernel_rfl,
  f15 := Try.func71.trans (congrArg some (by kernel_rfl)),
  f28 := Try.func88.trans (congrArg some (by kernel_rfl)),
  f29 := Try.func89.trans (congrArg some (by kernel_rfl)),
  f47 := Try.func109.trans (congrArg some (by kernel_rfl)),
  t3 := Try.underlying3,
  a3 := Try.isAgg3,
  z3 := Try.sizeOf3,
  v3 := Try.zeroValue3,
  t4 := Try.underlying4,
  a4 := Try.isAgg4,
  z4 := Try.sizeOf4,
  v4 := Try.zeroValue4,
  t5 := Try.underlying5,
  a5 := Try.isAgg5,
  z5 := Try.sizeOf5,
  v5 := Try.zeroValue5,
  t9 := Try.underlying9,
  a9 := Try.isAgg9,
  z9 := Try.sizeOf9,
  v9 := Try.zeroValue9,
  t39 := Try.underlying93,
  a39 := Try.isAgg93,
  z39 := Try.sizeOf93,
  v39 := Try.zeroValue93,
  t53 := Try.underlying33,
  a53 := Try.isAgg33,
  z53 := Try.sizeOf33,
  v53 := Try.zeroValue33,
  t55 := Try.underlying81,
  a55 := Try.isAgg81,
  z55 := Try.sizeOf81,
  v55 := Try.zeroValue81 }

/-- A world of the sort's with a number of 64 bits in a cell of its own. -/
def Rnd (w0 : World) (blk off : Nat) (dk : Array Int) (c X : Nat) (W : World) : Prop :=
  SW (.int .u32) w0 blk off dk W ∧ W.cell? ⟨c, 0, none⟩ = some (.int .u64 (X : Int)) ∧ W.frozen? ⟨c, 0, none⟩ = false ∧ w0.heap.size ≤ c
theorem Rnd.next {w0 W : World} {blk off c X : Nat} {dk : Array Int} (h : Rnd w0 blk off dk c X W) (Y : Nat) : Rnd w0 blk off dk c Y ((W.setCell ⟨c, 0, none⟩ (.int .u64 (Y : Int))).drewN 3) :=
  ⟨(h.1.setCell_new c 0 _ h.2.2.2).drewN 3, by show (W.setCell ⟨c, 0, none⟩ (.int .u64 (Y : Int))).cell? _ = _; exact World.cell?_setCell_same' _ _ _ (by rw [h.2.1]; rfl), by show (W.setCell ⟨c, 0, none⟩ (.int .u64 (Y : Int))).frozen? _ = _; rw [World.frozen?_setCell]; exact h.2.2.1, h.2.2.2⟩
theorem Rnd.swap {w0 W : World} {blk off c X : Nat} {d0 dk : Array Int} (h : Rnd w0 blk off dk c X W) (R : Row1 (.int .u32) w0 blk off d0) (i j : Nat) (hi : i < dk.size) (hj : j < dk.size) :
    Rnd w0 blk off (swp dk i j) c X ((W.setCell ⟨blk, off + i, none⟩ (.int .u32 dk[j]!)).setCell ⟨blk, off + j, none⟩ (.int .u32 dk[i]!)).drew := by
  have hne : c ≠ blk := by have h1 := R.hblk; have h2 := h.2.2.2; omega
  have hk := box_kept_swap1 hne h.2.1 h.2.2.1 (off + i) (off + j) (.int .u32 dk[j]!) (.int .u32 dk[i]!)
  exact ⟨h.1.swapped R i j hi hj, hk.1, hk.2, h.2.2.2⟩
set_option maxHeartbeats 8000000 in
set_option maxRecDepth 100000 in
theorem break_u32 (blk off cap a L : Nat) (d0 d : Array Int) (w0 w : World) (R : Row1 (.int .u32) w0 blk off d0) (hs : d.size = d0.size) (S : SW (.int .u32) w0 blk off d w) (h8 : 8 ≤ L) (hb : a + L ≤ d0.size) (hsz : d0.size < 4611686018427387904) :
    Calls Try.prog 93 #[.slice (some ⟨blk, off, none⟩) d0.size cap, .int .i64 a, .int .i64 ((a + L : Nat) : Int)] w fun e w' => e = .returned (.tuple #[]) ∧ SW (.int .u32) w0 blk off (breakPatterns d a (a + L)) w' := by
  obtain ⟨b, hb0⟩ : ∃ b, b = a + L := ⟨_, rfl⟩
  rw [← hb0]
  obtain ⟨M, hM⟩ : ∃ M : Nat, M = 1 <<< bitsLen L := ⟨_, rfl⟩
  have hM1 : 1 ≤ M := by rw [hM, Nat.one_shiftLeft]; exact Nat.two_pow_pos _
  have hM2 : M ≤ 2 * L := by rw [hM, Nat.one_shiftLeft]; exact two_pow_bitsLen_le (by omega)
  obtain ⟨q, hq⟩ : ∃ q, q = L / 4 := ⟨_, rfl⟩
  obtain ⟨i0, hi0⟩ : ∃ i0, i0 = a + q * 2 - 1 := ⟨_, rfl⟩
  obtain ⟨i2, hi2⟩ : ∃ i2, i2 = i0 + 2 := ⟨_, rfl⟩
  have HB : Hid (breakPatterns d a b = bpRest a L M i0 3 0 (UInt64.ofNat L, d)) := by
    show breakPatterns d a b = _
    rw [hb0, breakPatterns_eq d a L h8, hM, hi0, hq]
  have HNP := Hid.mk' (fun w => AnyF.nextPowerOfTwo (P := Try.prog) lay_npot L (by omega) w)
  rw [← hM] at HNP
  have eL : (b : Int) - (a : Int) = (L : Int) := by omega
  have eq4 : (L : Int).tdiv 4 = (q : Int) := by rw [Int.tdiv_eq_ediv_of_nonneg (by omega)]; omega
  have e0 : (a : Int) + (q : Int) * 2 - 1 = (i0 : Int) := by omega
  have e2 : (a : Int) + (q : Int) * 2 + 1 = (i2 : Int) := by omega
  have hL8 : (8 : Int) ≤ (L : Int) := by omega
  have hLl : L < 4611686018427387904 := by omega
  have hi2l : i2 < b := by omega
  have hql : q ≤ L := by omega
  have HI2 : Hid (i2 = i0 + 2) := hi2
  have HBB : Hid (b = a + L) := hb0
  have hbl : b ≤ d0.size := by omega
  have hLb : L ≤ b := by omega
  have hab : a ≤ b := by omega
  clear hM hq hi0 hi2 hb hb0
  have Q0 : Hid (Rnd w0 blk off d w.heap.size L (w.alloc (.cells #[.int .u64 (L : Int)] 124))) := ⟨S.alloc _, by simp, by simp, S.le⟩
  clear S
  go_enter Try.func93, Try.ntmps93
  go_wp2_with fail
  refine (HNP.out _).mono ?_
  rintro e w1 ⟨rfl, rfl⟩
  go_wp2
  obtain ⟨c, hcc⟩ : ∃ c, c = w.heap.size := ⟨_, rfl⟩
  rw [← hcc] at Q0
  go_loopw [9, 10] (fun v9 v10 wr => ∃ (x t : Nat) (r : UInt64) (dk : Array Int), v9 = .int .i64 x ∧ Hid (x = i0 + t) ∧ t ≤ 3 ∧ x ≤ i2 + 1 ∧ dk.size = d0.size ∧ Hid (Rnd w0 blk off dk c r.toNat wr) ∧ Hid (bpRest a L M i0 (3 - t) t (r, dk) = bpRest a L M i0 3 0 (UInt64.ofNat L, d)))
    (fun v9 v10 _ => i2 + 1 - (intOf v9).toNat)
  case atStart => exact ⟨i0, 0, UInt64.ofNat L, d, rfl, rfl, by omega, by have := HI2.out; omega, hs, by rw [show (UInt64.ofNat L).toNat = L from by simp; omega]; exact Q0, rfl⟩
  case round =>
    clear Q0 hs
    obtain ⟨x, t, r, dk, rfl, HX, ht3, hxi, hds, Q1, HR⟩ := hrel
    by_cases hx : x ≤ i2
    · obtain ⟨X, hX⟩ : ∃ X : Nat, X = r.toNat := ⟨_, rfl⟩
      have lX : X < 18446744073709551616 := by rw [hX]; exact r.toNat_lt
      obtain ⟨Y, hY⟩ : ∃ Y : Nat, Y = xorNextN X := ⟨_, rfl⟩
      have lY : Y < 18446744073709551616 := by rw [hY]; exact xorNextN_lt X lX
      obtain ⟨O, hO⟩ : ∃ O : Nat, O = Y &&& (M - 1) := ⟨_, rfl⟩
      have lO : O ≤ M - 1 := by rw [hO]; exact Nat.and_le_right
      have eAnd : bits .and .u64 (Y : Int) ((M : Int) - 1) = (O : Int) := by
        rw [show ((M : Int) - 1) = ((M - 1 : Nat) : Int) by omega, bits_and_u64_nat _ _ lY (by omega), hO]
      have HN : Hid (Y = (xorNext r).toNat ∧ O = (xorNext r).toNat &&& (M - 1)) := by
        have e : Y = (xorNext r).toNat := by rw [hY, hX, xorNext_toNat]
        exact ⟨e, by rw [hO, e]⟩
      have hcB : wr.cell? ⟨c, 0, none⟩ = some (.int .u64 (X : Int)) := by rw [hX]; exact Q1.out.2.1
      have hNext := AnyF.xorshift_Next (P := Try.prog) lay_next c 0 X lX wr hcB Q1.out.2.2.1
      rw [← hY] at hNext
      have HNX := Hid.mk' hNext
      have Q2 : Hid (Rnd w0 blk off dk c Y ((wr.setCell ⟨c, 0, none⟩ (.int .u64 (Y : Int))).drewN 3)) := Q1.out.next Y
      clear hNext hX hY hO hcB Q1
      have hxl : x < d0.size := by omega
      go_wp2_with fail
      rw [← hcc]
      refine HNX.out.mono ?_
      rintro e w2 ⟨rfl, rfl⟩
      generalize (wr.setCell ⟨c, 0, none⟩ (.int .u64 (Y : Int))).drewN 3 = w2 at Q2 ⊢
      obtain ⟨G, hG, hc, hf⟩ := row_facts Q2.out.1 R hds
      go_wp2
      · have hLO : L ≤ O := by omega
        obtain ⟨p, hp⟩ : ∃ p, p = a + (O - L) := ⟨_, rfl⟩
        have ep : (a : Int) + ((O : Int) - (L : Int)) = (p : Int) := by omega
        have hpl : p < d0.size := by have := HBB.out; omega
        have HP : Hid (p = a + (O - L)) := hp
        clear hp
        obtain ⟨u, hu⟩ := Q2.out.1.c2 R hds x p (by omega) (by omega) (.int .u32 (G p))
        go_region
        all_goals go_wp2
        go_roundw
        case rel =>
          have ht : t < 3 := by have h1 := HX.out; have h2 := HI2.out; omega
          refine ⟨x + 1, t + 1, xorNext r, swp dk x p, by go_num, by have := HX.out; exact (by omega : x + 1 = i0 + (t + 1)), by omega, by omega, by rw [size_swp]; exact hds, ?_, ?_⟩
          · rw [← HN.out.1]
            have := Q2.out.swap R x p (by omega) (by omega)
            rw [← hG.out x, ← hG.out p] at this
            exact this
          · show _ = _
            rw [← HR.out, bp_step a L M i0 t r dk (O - L) ht (by rw [← HN.out.2, if_pos hLO]), ← HX.out, ← HP.out]
        case measure => simp [intOf]; omega
      · have hLO : ¬ L ≤ O := by omega
        obtain ⟨p, hp⟩ : ∃ p, p = a + O := ⟨_, rfl⟩
        have ep : (a : Int) + (O : Int) = (p : Int) := by omega
        have hpl : p < d0.size := by have := HBB.out; omega
        have HP : Hid (p = a + O) := hp
        clear hp
        obtain ⟨u, hu⟩ := Q2.out.1.c2 R hds x p (by omega) (by omega) (.int .u32 (G p))
        go_region
        all_goals go_wp2
        go_roundw
        case rel =>
          have ht : t < 3 := by have h1 := HX.out; have h2 := HI2.out; omega
          refine ⟨x + 1, t + 1, xorNext r, swp dk x p, by go_num, by have := HX.out; exact (by omega : x + 1 = i0 + (t + 1)), by omega, by omega, by rw [size_swp]; exact hds, ?_, ?_⟩
          · rw [← HN.out.1]
            have := Q2.out.swap R x p (by omega) (by omega)
            rw [← hG.out x, ← hG.out p] at this
            exact this
          · show _ = _
            rw [← HR.out, bp_step a L M i0 t r dk O ht (by rw [← HN.out.2, if_neg hLO]), ← HX.out, ← HP.out]
        case measure => simp [intOf]; omega
    · go_wp2
      go_end0
      have ht : t = 3 := by have h1 := HX.out; have h2 := HI2.out; omega
      have h := HR.out
      rw [ht] at h
      rw [HB.out, ← h]
      exact ⟨rfl, Q1.out.1⟩
/-! Go's own sort at uint32: its loop and its recursion (after the kit's walk of the same code at int). -/
theorem hintZ_eq (h : Hint) : hintZ h = hintCode h := by cases h <;> rfl
theorem hintC_two {h : Hint} (e : hintCode h = 2) : h = .decreasing := by cases h <;> simp [hintCode] at e ⊢
theorem eighthU {x y p q : Nat} (h1 : q ≤ p) (h2 : y ≤ x) : decide (((x : Int) - (y : Int)) / 8 ≤ (p : Int) - (q : Int)) = decide (p - q ≥ (x - y) / 8) :=
  decide_eq_decide.2 ⟨fun h => by omega, fun h => by omega⟩
set_option maxHeartbeats 6400000 in
set_option maxRecDepth 1000000 in
theorem pdq_u32 (blk off cap : Nat) (d0 : Array Int) (w0 : World) (R : Row1 (.int .u32) w0 blk off d0) (hsz : d0.size < 4611686018427387904) : ∀ (N a b limit : Nat) (d : Array Int) (w : World), b - a < N → SW (.int .u32) w0 blk off d w → d.size = d0.size → a ≤ b → b ≤ d0.size → limit < 4611686018427387904 → Go.Sort.Below ltInt a b d →
    Calls Try.prog 76 #[.slice (some ⟨blk, off, none⟩) d0.size cap, .int .i64 a, .int .i64 b, .int .i64 limit] w fun e w' => e = .returned (.tuple #[]) ∧ SW (.int .u32) w0 blk off (pdq ltInt d a b limit true true) w' := by
  intro N
  induction N with
  | zero => intro _ _ _ _ _ h; exact absurd h (Nat.not_lt_zero _)
  | succ N ih =>
    intro a b limit d w hN hS0 hdd hab hb hlimit hBel0
    go_enter Try.func76, Try.ntmps76
    go_wp2
    go_loopg [1, 2, 3, 8, 9] (b - a) (fun k s1 s2 s3 s8 s9 wr => ∃ (a' b' lim : Nat) (wb wp : Bool) (dk : Array Int), s1 = .int .i64 a' ∧ s2 = .int .i64 b' ∧ s3 = .int .i64 lim ∧ s8 = .bool wb ∧ s9 = .bool wp ∧
      a' ≤ b' ∧ b' ≤ d0.size ∧ b' - a' ≤ k ∧ k ≤ b - a ∧ lim ≤ limit ∧ dk.size = d0.size ∧ Go.Sort.Below ltInt a' b' dk ∧ SW (.int .u32) w0 blk off dk wr ∧ pdq ltInt dk a' b' lim wb wp = pdq ltInt d a b limit true true)
    case atStart => exact ⟨a, b, limit, true, true, d, rfl, rfl, rfl, rfl, rfl, hab, hb, Nat.le_refl _, Nat.le_refl _, Nat.le_refl _, hdd, hBel0, hS0, rfl⟩
    case round =>
      obtain ⟨a', b', lim, wb, wp, dk, rfl, rfl, rfl, rfl, rfl, hab', hb', hk, hkN, hlim, hds, hBel, hAt, heq⟩ := hrel
      have A : Aside (pdq ltInt dk a' b' lim wb wp = pdq ltInt d a b limit true true) := heq
      clear heq
      by_cases h12 : b' - a' ≤ 12
      · -- 'if length <= maxInsertion'
        have h12z : (b' : Int) - (a' : Int) ≤ 12 := by omega
        have hc := insertion_u32 blk off cap a' b' d0 dk w0 wr R hds hAt hb' hsz (by omega)
        go_wp2_with (go_at_call 91; refine hc.mono ?_; rintro e w1 ⟨rfl, hw1⟩)
        (try simp only [Exit.inBlock, Exit.then]); refine bodyPost_ret (results_none rfl _ _ _) rfl ?_
        refine ⟨rfl, ?_⟩
        rw [← A.out, pdq_small h12]
        exact hw1
      · have h12z : ¬ ((b' : Int) - (a' : Int) ≤ 12) := by omega
        by_cases hl0 : lim = 0
        · -- 'if limit == 0'
          subst hl0
          have hc := heap_u32 blk off cap a' b' d0 dk w0 wr R hds hAt (by omega) hb' hsz
          go_wp2_with (go_at_call 92; refine hc.mono ?_; rintro e w1 ⟨rfl, hw1⟩)
          (try simp only [Exit.inBlock, Exit.then]); refine bodyPost_ret (results_none rfl _ _ _) rfl ?_
          refine ⟨rfl, ?_⟩
          rw [← A.out, pdq_heap h12 rfl]
          exact hw1
        · have hl0z : ¬ ((lim : Int) = 0) := by omega
          obtain ⟨s1, B1, hc1, s2, B2, hpv, s3, B3⟩ := rd_facts (limit := lim) (wb := wb) (wp := wp) swo_ltInt partialInsertionSort_holds reverseRange_holds (show a' < b' by omega) (show b' ≤ dk.size by omega) hBel
          go_upto_if 35 with fail
          go_cut [3] from 19 (fun s3 wc => s3 = .int .i64 (rd ltInt dk a' b' lim wb wp).lim ∧ SW (.int .u32) w0 blk off (rd ltInt dk a' b' lim wb wp).d1 wc)
          case first =>
            cases wb
            · obtain ⟨L, hL⟩ : ∃ L, b' = a' + L := ⟨b' - a', by omega⟩
              have hc := break_u32 blk off cap a' L d0 dk w0 wr R hds hAt (by omega) (by omega) hsz
              rw [← hL] at hc
              clear hL
              go_wp2_with (go_at_call 93; refine hc.mono ?_; rintro e w1 ⟨rfl, hw1⟩)
              go_meet
              case rel =>
                refine ⟨?_, hw1⟩
                show Value.int .i64 ((lim : Int) - 1) = Value.int .i64 ((lim - 1 : Nat) : Int)
                congr 1
                omega
            · go_wp2_with fail
              go_meet
              case rel => exact ⟨rfl, hAt⟩
          case rest =>
            obtain ⟨rfl, hAt1⟩ := hcut
            have hc17 := pivot_u32 blk off cap a' b' d0 (rd ltInt dk a' b' lim wb wp).d1 w0 wc R (s1.trans hds) hAt1 (by omega) hb' hsz
            rw [hintZ_eq] at hc17
            rw [← rd_c] at hc17
            go_upto_if 50 with (go_at_call 94; refine hc17.mono ?_; rintro e w2 ⟨rfl, hAt2⟩)
            go_cut [11, 12] from 19 (fun s11 s12 wc => s11 = .int .i64 (rd ltInt dk a' b' lim wb wp).pivot ∧ s12 = .int .i64 (hintCode (rd ltInt dk a' b' lim wb wp).hint) ∧ SW (.int .u32) w0 blk off (rd ltInt dk a' b' lim wb wp).d2 wc)
            case first =>
              by_cases hh : (rd ltInt dk a' b' lim wb wp).c.2 = .decreasing
              · have hcode : hintCode (rd ltInt dk a' b' lim wb wp).c.2 = 2 := by rw [hh]; rfl
                obtain ⟨e2, epv, eht⟩ := rd_dec hh
                have hc18 := reverse_u32 blk off cap a' b' d0 (rd ltInt dk a' b' lim wb wp).d1 w0 w2 R (s1.trans hds) hAt2 (by omega) hb' hsz
                go_wp2_with (go_at_call 95; refine hc18.mono ?_; rintro e w3 ⟨rfl, hw3⟩)
                go_meet
                case rel =>
                  refine ⟨?_, by rw [eht]; rfl, by rw [e2]; exact hw3⟩
                  rw [epv]
                  congr 1
                  omega
              · have hcode : ¬ (hintCode (rd ltInt dk a' b' lim wb wp).c.2 = 2) := fun h => hh (hintC_two h)
                obtain ⟨e2, epv, eht⟩ := rd_not hh
                go_wp2_with fail
                go_meet
                case rel => exact ⟨by rw [epv], by rw [eht], by rw [e2]; exact hAt2⟩
            case rest =>
              obtain ⟨rfl, rfl, hAt3⟩ := hcut
              go_upto_region 15 with fail
              go_cut [12, 68] from 19 (fun s12 s68 wx => s12 = .int .i64 (hintCode (rd ltInt dk a' b' lim wb wp).hint) ∧ s68 = .bool (wb && wp && decide ((rd ltInt dk a' b' lim wb wp).hint = .increasing)) ∧ wx = wc)
              case first =>
                cases wb <;> cases wp <;> cases hh3 : (rd ltInt dk a' b' lim _ _).hint <;>
                  (have hcode3 := congrArg hintCode hh3
                   simp only [hintCode] at hcode3
                   go_wp2_with fail
                   go_meet
                   exact ⟨by simp [hh3, hintCode], by simp [hh3, hintCode], rfl⟩)
              case rest =>
                obtain ⟨rfl, rfl, rfl⟩ := hcut
                go_upto_if 68 with fail
                go_cut [] from 19 (fun wx => (rd ltInt dk a' b' lim wb wp).pi.2 = false ∧ SW (.int .u32) w0 blk off (rd ltInt dk a' b' lim wb wp).pi.1 wx)
                case first =>
                  cases h68 : (wb && wp && decide ((rd ltInt dk a' b' lim wb wp).hint = .increasing))
                  · have epi := rd_pi_no h68
                    go_wp2_with fail
                    go_meet
                    case rel => exact ⟨by rw [epi], by rw [epi]; exact hAt3⟩
                  · have epi := rd_pi_yes h68
                    have hc19 := partial_u32 blk off cap a' b' d0 (rd ltInt dk a' b' lim wb wp).d2 w0 wc R (s2.trans hds) hAt3 (by omega) hb' hsz
                    rw [← epi] at hc19
                    go_wp2_with (go_at_call 96; refine hc19.mono ?_; rintro e w4 ⟨rfl, hw4, hw4s⟩)
                    all_goals first
                      | (have hp2 : (rd ltInt dk a' b' lim wb wp).pi.2 = false := by rw [epi]; assumption
                         go_meet
                         exact ⟨hp2, hw4⟩)
                      | (have hp2 : (rd ltInt dk a' b' lim wb wp).pi.2 = true := by rw [epi]; assumption
                         (try simp only [Exit.inBlock, Exit.then]); refine bodyPost_ret (results_none rfl _ _ _) rfl ?_
                         refine ⟨rfl, ?_⟩
                         rw [← A.out, pdq_done h12 hl0 hp2]
                         exact hw4)
                case rest =>
                  obtain ⟨hp2, hAt5⟩ := hcut
                  have hcw : ∀ t, t < d0.size → wc.cell? ⟨blk, off + t, none⟩ = some (.int .u32 (rd ltInt dk a' b' lim wb wp).pi.1[t]!) := fun t ht => hAt5.c1 R (s3.trans hds) t (by omega)
                  have hfw : ∀ t, t < d0.size → wc.frozen? ⟨blk, off + t, none⟩ = false := fun t ht => hAt5.f1 R (s3.trans hds) t (by omega)
                  go_upto_region 17 with fail
                  go_cut [87] from 19 (fun s87 wx => s87 = .bool (decide (a' > 0) && !ltInt (rd ltInt dk a' b' lim wb wp).pi.1[a' - 1]! (rd ltInt dk a' b' lim wb wp).pi.1[(rd ltInt dk a' b' lim wb wp).pivot]!) ∧ SW (.int .u32) w0 blk off (rd ltInt dk a' b' lim wb wp).pi.1 wx)
                  case first =>
                    rcases Nat.eq_zero_or_pos a' with ha0 | ha0
                    · have ha0z : decide ((a' : Int) > 0) = false := decide_eq_false (by omega)
                      go_big_quiet (first | (go_at_call 97; refine Calls.quiet_of_same (less_u32 _ _ _)))
                      go_wp2_with fail
                      go_meet
                      case rel => exact ⟨by simp [ha0], hAt5.drewN nq⟩
                    · have ha0z : (a' : Int) > 0 := by omega
                      go_big_quiet (first | (go_at_call 97; refine Calls.quiet_of_same (less_u32 _ _ _)))
                      go_wp2_with fail
                      go_meet
                      case rel => exact ⟨by simp [ha0], hAt5.drewN nq⟩
                  case rest =>
                    obtain ⟨rfl, hAt6⟩ := hcut
                    clear hcw hfw
                    cases h87 : (decide (a' > 0) && !ltInt (rd ltInt dk a' b' lim wb wp).pi.1[a' - 1]! (rd ltInt dk a' b' lim wb wp).pi.1[(rd ltInt dk a' b' lim wb wp).pivot]!)
                    · -- ████ 'mid, alreadyPartitioned := partitionOrdered(..)'; THE SMALLER SIDE BY A CALL OF ITSELF, the other by the next round
                      obtain ⟨mid, ap, d4, hx⟩ : ∃ mid ap d4, Sort.partition ltInt (rd ltInt dk a' b' lim wb wp).pi.1 a' b' (rd ltInt dk a' b' lim wb wp).pivot = (mid, ap, d4) := ⟨(Sort.partition ltInt (rd ltInt dk a' b' lim wb wp).pi.1 a' b' (rd ltInt dk a' b' lim wb wp).pivot).1, (Sort.partition ltInt (rd ltInt dk a' b' lim wb wp).pi.1 a' b' (rd ltInt dk a' b' lim wb wp).pivot).2.1, (Sort.partition ltInt (rd ltInt dk a' b' lim wb wp).pi.1 a' b' (rd ltInt dk a' b' lim wb wp).pivot).2.2, rfl⟩
                      obtain ⟨r1, r2, r3, r4, r5, r6, r7⟩ := round_part swo_ltInt (partition_holds ltInt) hpv.1 hpv.2 (show b' ≤ (rd ltInt dk a' b' lim wb wp).pi.1.size by omega) B3 hx
                      have hc22 := partition_u32 blk off cap a' b' (rd ltInt dk a' b' lim wb wp).pivot d0 (rd ltInt dk a' b' lim wb wp).pi.1 w0 wc R (s3.trans hds) hAt6 hpv.1 hpv.2 hb' hsz
                      rw [hx] at hc22
                      have X : Aside (Sort.partition ltInt (rd ltInt dk a' b' lim wb wp).pi.1 a' b' (rd ltInt dk a' b' lim wb wp).pivot = (mid, ap, d4)) := hx
                      clear hx
                      go_upto_if 113 with (go_at_call 99; refine hc22.mono ?_; rintro e w7 ⟨rfl, hAt7⟩)
                      have hx := X.out
                      by_cases h4 : mid - a' < b' - mid
                      · have h4z : (mid : Int) - (a' : Int) < (b' : Int) - (mid : Int) := by omega
                        have hih := ih a' mid (rd ltInt dk a' b' lim wb wp).lim d4 w7 (by omega) hAt7 (r3.trans (s3.trans hds)) (by omega) (by omega) (Nat.lt_of_le_of_lt (Nat.le_trans rd_lim_le hlim) hlimit) r4
                        obtain ⟨pL, sL⟩ := pdq_sorts ltInt swo_ltInt d4 a' mid (rd ltInt dk a' b' lim wb wp).lim true true (by omega) (by omega) r4
                        go_wp2_with (go_at_call 76; refine hih.mono ?_; rintro e w8 ⟨rfl, hw8⟩)
                        go_roundg (b' - (mid + 1))
                        case measure => omega
                        case rel =>
                          refine ⟨mid + 1, b', (rd ltInt dk a' b' lim wb wp).lim, decide (mid - a' ≥ (b' - a') / 8), ap, pdq ltInt d4 a' mid (rd ltInt dk a' b' lim wb wp).lim true true, by simp, rfl, rfl, ?_, rfl, by omega, by omega, Nat.le_refl _, by omega, Nat.le_trans rd_lim_le hlim, by rw [pL.1, r3, s3, hds], (r6 _ pL sL).1, hw8, ?_⟩
                          · exact congrArg Value.bool (eighthU (by omega) (by omega))
                          · rw [← A.out, pdq_left h12 hl0 hp2 h87 (by rw [hx]; exact ⟨r1, r2⟩) (by rw [hx]; exact h4), hx]
                      · have h4z : ¬ ((mid : Int) - (a' : Int) < (b' : Int) - (mid : Int)) := by omega
                        have hih := ih (mid + 1) b' (rd ltInt dk a' b' lim wb wp).lim d4 w7 (by omega) hAt7 (r3.trans (s3.trans hds)) (by omega) (by omega) (Nat.lt_of_le_of_lt (Nat.le_trans rd_lim_le hlim) hlimit) r5
                        obtain ⟨pL, sL⟩ := pdq_sorts ltInt swo_ltInt d4 (mid + 1) b' (rd ltInt dk a' b' lim wb wp).lim true true (by omega) (by omega) r5
                        go_wp2_with (go_at_call 76; refine hih.mono ?_; rintro e w8 ⟨rfl, hw8⟩)
                        go_roundg (mid - a')
                        case measure => omega
                        case rel =>
                          refine ⟨a', mid, (rd ltInt dk a' b' lim wb wp).lim, decide (b' - mid ≥ (b' - a') / 8), ap, pdq ltInt d4 (mid + 1) b' (rd ltInt dk a' b' lim wb wp).lim true true, rfl, rfl, rfl, ?_, rfl, by omega, by omega, Nat.le_refl _, by omega, Nat.le_trans rd_lim_le hlim, by rw [pL.1, r3, s3, hds], (r7 _ pL sL).1, hw8, ?_⟩
                          · exact congrArg Value.bool (eighthU (by omega) (by omega))
                          · rw [← A.out, pdq_right h12 hl0 hp2 h87 (by rw [hx]; exact ⟨r1, r2⟩) (by rw [hx]; exact h4), hx]
                    · -- ████ 'mid := partitionEqualOrdered(..); a = mid; continue'
                      have h87' := h87
                      simp only [Bool.and_eq_true, decide_eq_true_eq, Bool.not_eq_true'] at h87'
                      obtain ⟨mid, d4, hx⟩ : ∃ mid d4, partitionEqual ltInt (rd ltInt dk a' b' lim wb wp).pi.1 a' b' (rd ltInt dk a' b' lim wb wp).pivot = (mid, d4) := ⟨(partitionEqual ltInt (rd ltInt dk a' b' lim wb wp).pi.1 a' b' (rd ltInt dk a' b' lim wb wp).pivot).1, (partitionEqual ltInt (rd ltInt dk a' b' lim wb wp).pi.1 a' b' (rd ltInt dk a' b' lim wb wp).pivot).2, rfl⟩
                      obtain ⟨r1, r2, r3, r4, _⟩ := round_eq swo_ltInt (partitionEqual_holds ltInt) h87'.1 hpv.1 hpv.2 (show b' ≤ (rd ltInt dk a' b' lim wb wp).pi.1.size by omega) B3 h87'.2 hx
                      have hc21 := partEq_u32 blk off cap a' b' (rd ltInt dk a' b' lim wb wp).pivot d0 (rd ltInt dk a' b' lim wb wp).pi.1 w0 wc R (s3.trans hds) hAt6 hpv.1 hpv.2 hb' hsz
                      rw [hx] at hc21
                      have X : Aside (partitionEqual ltInt (rd ltInt dk a' b' lim wb wp).pi.1 a' b' (rd ltInt dk a' b' lim wb wp).pivot = (mid, d4)) := hx
                      clear hx
                      go_wp2_with (go_at_call 98; refine hc21.mono ?_; rintro e w7 ⟨rfl, hw7⟩)
                      go_roundg (b' - mid)
                      case measure => omega
                      case rel =>
                        have hx := X.out
                        exact ⟨mid, b', (rd ltInt dk a' b' lim wb wp).lim, wb, wp, d4, rfl, rfl, rfl, rfl, rfl, r2, hb', Nat.le_refl _, by omega, Nat.le_trans rd_lim_le hlim, by rw [r3, s3, hds], r4, hw7, by rw [← A.out, pdq_eq h12 hl0 hp2 h87 (by rw [hx]; exact ⟨r1, r2⟩), hx]⟩

end Go.Proofs.Ythekledcoeeheaa.P
namespace Go.Proofs.Ythekledcoeeheaa.P
open Go.Sort
/-! A list of numbers, sorted: one by one laid where it belongs. -/
def insU (x : Int) : List Int → List Int
  | [] => [x]
  | y :: s => if x ≤ y then x :: y :: s else y :: insU x s
def sortU : List Int → List Int
  | [] => []
  | x :: s => insU x (sortU s)
theorem insU_perm (x : Int) : ∀ l, (insU x l).Perm (x :: l)
  | [] => List.Perm.refl _
  | y :: s => by
    unfold insU
    split
    · exact List.Perm.refl _
    · exact ((insU_perm x s).cons y).trans (List.Perm.swap x y s)
theorem insU_pair (x : Int) : ∀ l, l.Pairwise (fun a b : Int => a ≤ b) → (insU x l).Pairwise (fun a b : Int => a ≤ b)
  | [], _ => by simp [insU]
  | y :: s, h => by
    rw [List.pairwise_cons] at h
    obtain ⟨h1, h2⟩ := h
    unfold insU
    split
    · rename_i hxy
      rw [List.pairwise_cons]
      refine ⟨?_, List.pairwise_cons.2 ⟨h1, h2⟩⟩
      intro a ha
      rcases List.mem_cons.1 ha with rfl | ha
      · exact hxy
      · exact Int.le_trans hxy (h1 a ha)
    · rename_i hxy
      rw [List.pairwise_cons]
      refine ⟨?_, insU_pair x s h2⟩
      intro a ha
      rcases List.mem_cons.1 ((insU_perm x s).mem_iff.1 ha) with rfl | ha
      · omega
      · exact h1 a ha
theorem sortU_perm : ∀ l, (sortU l).Perm l
  | [] => List.Perm.refl _
  | x :: s => (insU_perm x (sortU s)).trans ((sortU_perm s).cons x)
theorem sortU_pair : ∀ l, (sortU l).Pairwise (fun a b : Int => a ≤ b)
  | [] => List.Pairwise.nil
  | x :: s => insU_pair x _ (sortU_pair s)
theorem sortU_len (l : List Int) : (sortU l).length = l.length := (sortU_perm l).length_eq
theorem sortU_mem (l : List Int) (x : Int) : x ∈ sortU l ↔ x ∈ l := (sortU_perm l).mem_iff
theorem pair_unique (l r : List Int) (h : l.Perm r) (h1 : l.Pairwise (fun a b : Int => a ≤ b)) (h2 : r.Pairwise (fun a b : Int => a ≤ b)) : l = r :=
  List.Perm.eq_of_pairwise (le := fun a b : Int => a ≤ b) (fun a b _ _ x y => Int.le_antisymm x y) h1 h2 h
theorem sortU_merge (l : List Int) : l.mergeSort (fun x y => decide (x ≤ y)) = sortU l := by
  refine pair_unique _ _ ((List.mergeSort_perm _ _).trans (sortU_perm l).symm) ?_ (sortU_pair l)
  have h := List.pairwise_mergeSort (le := fun x y : Int => decide (x ≤ y)) (fun a b c h1 h2 => by simp only [decide_eq_true_eq] at *; omega) (fun a b => by by_cases h : a ≤ b; simp [h]; simp [h]; omega) l
  exact h.imp (fun h => by simpa using h)
theorem sort_arr (l : List Int) : Go.Sort.sort ltInt l.toArray = (sortU l).toArray := by
  have h := sortInt l
  rw [sortU_merge] at h
  rw [← h]
end Go.Proofs.Ythekledcoeeheaa.P
namespace Go.Proofs.Ythekledcoeeheaa.P
open Go.RowKit Go.Proofs.YthekledcoeeheaaW.PrintWords Go.Proofs.YthekledcoeeheaaW.PrintLast Go.Proofs.YthekledcoeeheaaW.PrintMore Go.Lib Go.Shelf Go.Sort
/-! Go's own sort of a slice of uint32, whatever its length. -/
def lay_bitsLen_ren : Go.Shelf.Ren := ⟨fun | 15 => 71 | 28 => 88 | 29 => 89 | n => n, fun | 39 => 93 | 3 => 3 | 53 => 33 | 55 => 81 | 4 => 4 | 5 => 5 | 9 => 9 | n => n, fun n => n⟩
theorem lay_bitsLen : SlLaysF0.n15 Try.prog lay_bitsLen_ren := {
  mixed := by kernel_rfl,
  f15 := Try.func71.trans (congrArg some (by kernel_rfl)),
  f28 := Try.func88.trans (congrArg some (by kernel_rfl)),
  f29 := Try.func89.trans (congrArg some (by kernel_rfl)),
  t3 := Try.underlying3,
  a3 := Try.isAgg3,
  z3 := Try.sizeOf3,
  v3 := Try.zeroValue3,
  t4 := Try.underlying4,
  a4 := Try.isAgg4,
  z4 := Try.sizeOf4,
  v4 := Try.zeroValue4,
  t5 := Try.underlying5,
  a5 := Try.isAgg5,
  z5 := Try.sizeOf5,
  v5 := Try.zeroValue5,
  t9 := Try.underlying9,
  a9 := Try.isAgg9,
  z9 := Try.sizeOf9,
  v9 := Try.zeroValue9,
  t39 := Try.underlying93,
  a39 := Try.isAgg93,
  z39 := Try.sizeOf93,
  v39 := Try.zeroValue93,
  t53 := Try.underlying33,
  a53 := Try.isAgg33,
  z53 := Try.sizeOf33,
  v53 := Try.zeroValue33,
  t55 := Try.underlying81,
  a55 := Try.isAgg81,
  z55 := Try.sizeOf81,
  v55 := Try.zeroValue81 }

def Sort_u32.f (k : Nat) (l0 : List Int) : Option (List Int) := if l0.length < 4611686018427387904 then some (sortU l0) else none
theorem Sort_u32.mono : ∀ a0 k, LeO (Sort_u32.f k a0) (Sort_u32.f (k + 1) a0) := fun a0 k r h => h
theorem bits_len (n : Nat) (hn : n < 4611686018427387904) (W : World) : Calls Try.prog 71 #[.int .u64 (n : Int)] W fun e w' => e = .returned (.int .i64 (bitsLen n : Nat)) ∧ w' = W := by
  have h := Any.bits_Len (SlLaysF0.n15.bits (P := Try.prog) (ρ := lay_bitsLen_ren) lay_bitsLen) (n : Int) W (by omega) (by omega)
  rwa [Int.toNat_natCast, bitLen_eq _ (by omega)] at h
theorem ins_nil (w : World) : Calls Try.prog 91 #[.slice none 0 0, .int .i64 0, .int .i64 0] w fun e w' => e = .returned (.tuple #[]) ∧ ∃ q, w' = w.drewN q := by
  go_enter Try.func91, Try.ntmps91
  go_wp2
  refine wp_loop_rounds 1 ?_
  rw [rounds_succ]
  go_wp2
  go_end0
  exact ⟨rfl, 0, rfl⟩
theorem pdq_nil (w : World) : Calls Try.prog 76 #[.slice none 0 0, .int .i64 0, .int .i64 0, .int .i64 0] w fun e w' => e = .returned (.tuple #[]) ∧ ∃ q, w' = w.drewN q := by
  go_enter Try.func76, Try.ntmps76
  go_wp2
  refine wp_loop_rounds 1 ?_
  rw [rounds_succ]
  go_wp2_with (first | (go_at_call 91; refine (ins_nil _).mono ?_; rintro e w1 ⟨rfl, q, rfl⟩))
  refine bodyPost_ret (results_none rfl _ _ _) rfl ?_
  exact ⟨rfl, q, rfl⟩
theorem sort_nil (w : World) : Calls Try.prog 59 #[.slice none 0 0] w fun e w' => e = .returned (.tuple #[]) ∧ ∃ q, w' = w.drewN q := by
  have HBL := Go.Lib.hid (bits_len 0 (by omega) w)
  go_enter Try.func59, Try.ntmps59
  go_wp2_with (first | (go_at_call 71; refine HBL.out.mono ?_; rintro e w1 ⟨rfl, rfl⟩) | (go_at_call 76; refine (pdq_nil _).mono ?_; rintro e w1 ⟨rfl, q, rfl⟩))
  go_end0
  exact ⟨rfl, q, rfl⟩
theorem sort_row (blk off cap : Nat) (l : List Int) (w : World) (hH : Holds (.int .u32) w blk off l.toArray) (hblk : blk < w.heap.size) (hsz : l.length < 4611686018427387904) :
    Calls Try.prog 59 #[.slice (some ⟨blk, off, none⟩) l.length cap] w fun e w' => e = .returned (.tuple #[]) ∧ SW (.int .u32) w blk off (sortU l).toArray w' := by
  have hlim : bitsLen l.length < 4611686018427387904 := Nat.lt_of_le_of_lt ((bitsLen_le_iff l.length 62).2 (by omega)) (by omega)
  have K := pdq_u32 blk off cap l.toArray w (row_u32 hH hblk) (by simpa using hsz) (l.length + 1) 0 l.length (bitsLen l.length) l.toArray w (by omega) (SW.start hH) rfl (Nat.zero_le _) (by simp) hlim (Or.inl rfl)
  have e : pdq ltInt l.toArray 0 l.length (bitsLen l.length) true true = (sortU l).toArray := by
    rw [← sort_arr l]
    unfold Go.Sort.sort
    simp
  rw [e] at K
  simp only [List.size_toArray] at K
  have HP := Go.Lib.hid K
  have HBL := Go.Lib.hid (bits_len l.length hsz w)
  have wrp : IntKind.u64.wrap (l.length : Int) = l.length := by simp [IntKind.wrap, IntKind.bits, IntKind.signed]; omega
  clear K e hlim hH hblk
  go_enter Try.func59, Try.ntmps59
  go_wp2_with (first | (go_at_call 71; refine HBL.out.mono ?_; rintro e w1 ⟨rfl, rfl⟩) | (go_at_call 76; refine HP.out.mono ?_; rintro e w1 ⟨rfl, h1⟩; have H1 := Go.Lib.hid h1; clear h1))
  go_end0
  exact ⟨rfl, H1.out⟩
theorem Sort_u32.calls (k : Nat) (P0_ : Nat → Prop) (u9000_ : Value) (l0 : List Int) (r : List Int) (w0 w : World) (hB : Below w0.heap.size w0 w) (ho0 : Kd.R (Kd.int .u32) 33 w w0.heap.size P0_ u9000_ l0) (h : Sort_u32.f k l0 = some r) :
    Calls Try.prog 59 #[u9000_] w fun e w' => e = .returned (.tuple #[]) ∧ Kd.R (Kd.int .u32) 33 w' w0.heap.size (fun k_ => (P0_ k_ ∨ w.heap.size ≤ k_)) u9000_ r ∧ Below w0.heap.size w0 w' ∧ Kept w w' (fun k_ => P0_ k_) := by
  unfold Sort_u32.f at h
  by_cases hl : l0.length < 4611686018427387904
  · rw [if_pos hl] at h
    have hr := Option.some.inj h
    clear h
    rcases bridge_down (d := Kd.int .u32) (enc := fun x : Int => [.int .u32 x]) (fun h => h) (fun _ => rfl) (by decide) ho0 with ⟨rfl, rfl⟩ | ⟨g, cap, cur, rfl, hbase, hb, hnc, hcm, hcs, hok, hH⟩
    · have hrn : r = [] := by rw [← hr]; rfl
      subst hrn
      refine (sort_nil w).mono ?_
      rintro e w' ⟨rfl, q, rfl⟩
      exact ⟨rfl, Kd.R_nil _ _ _ _ _, ⟨hB.os, hB.tape, hB.output, hB.size, hB.block⟩, Kept.refl _ _⟩
    · refine (sort_row g 0 cap l0 w (holds_one _ _ _ _ _ hH) (blk_lt hb) hl).mono ?_
      rintro e w' ⟨rfl, m, os, rfl⟩
      rw [hr]
      have hyl : r.length = l0.length := by rw [← hr]; exact sortU_len l0
      have hup := bridge_up (d := Kd.int .u32) (enc := fun x : Int => [.int .u32 x]) (ys := r) (fun _ _ _ _ => rfl) (fun _ => rfl) (by decide) hB hbase hb hyl hnc hcm hcs hok m os
      rw [show (Kd.int .u32).sz = 1 from rfl, ← putRow_one] at hup
      exact ⟨rfl, hup⟩
  · rw [if_neg hl] at h
    exact absurd h (by simp)
end Go.Proofs.Ythekledcoeeheaa.P
namespace Go.Proofs.Ythekledcoeeheaa.P
open Go.RowKit Go.Proofs.YthekledcoeeheaaW.PrintWords Go.Proofs.YthekledcoeeheaaW.PrintLast Go.Proofs.YthekledcoeeheaaW.PrintMore
attribute [local go_sem] max2_int min2_int max_two min_two max_three min_three max_four min_four
/-! ### route_Copy: function 37 -/
def q5z.f (a0_0 : Int) (a0_1 : Int) (l0_2 : List Int) (l0_3 : List Int) (a0_4 : Int) (a0_5 : Int) (a0_6 : Int) (a0_7 : Int) : Option (Int × Int × List Int × List Int × Int × Int × Int × Int) := (some (([] : List Int) : List Int)).bind fun y3 => (if y3.length + l0_2.length < 35184372088832 then ((some (([] : List Int) : List Int)).bind fun y9 => (if y9.length + l0_3.length < 35184372088832 then (some (a0_0, a0_1, (y3 ++ l0_2), (y9 ++ l0_3), a0_4, a0_5, a0_6, a0_7)) else (none))) else (none))
set_option maxHeartbeats 8000000 in
set_option maxRecDepth 100000 in
theorem q5z.calls (a0_0 : Int) (a0_1 : Int) (A0_2 : Option Addr) (c0_2 : Nat) (l0_2 : List Int) (A0_3 : Option Addr) (c0_3 : Nat) (l0_3 : List Int) (a0_4 : Int) (a0_5 : Int) (a0_6 : Int) (a0_7 : Int) (r1 : Int) (r2 : Int) (r3 : List Int) (r4 : List Int) (r5 : Int) (r6 : Int) (r7 : Int) (r8 : Int) (w : World) (hr0_2 : Kd.C (Kd.int .u32) w A0_2 l0_2.length l0_2) (hc0_2 : l0_2.length ≤ c0_2) (hr0_3 : Kd.C (Kd.int .u32) w A0_3 l0_3.length l0_3) (hc0_3 : l0_3.length ≤ c0_3) (h : q5z.f a0_0 a0_1 l0_2 l0_3 a0_4 a0_5 a0_6 a0_7 = some (r1, r2, r3, r4, r5, r6, r7, r8)) :
  Calls Try.prog 37 #[.agg #[.int .u32 a0_0, .int .i64 a0_1, .slice A0_2 l0_2.length c0_2, .slice A0_3 l0_3.length c0_3, .int .u32 a0_4, .int .u32 a0_5, .int .i64 a0_6, .int .u32 a0_7]] w fun e w' => ∃ v2_ v3_ : Value, e = .returned (.agg #[.int .u32 r1, .int .i64 r2, v2_, v3_, .int .u32 r5, .int .u32 r6, .int .i64 r7, .int .u32 r8]) ∧ Kd.R (Kd.int .u32) 33 w' w.heap.size (fun k_ => some k_ ≠ (v3_ : Value).ownBlock) v2_ r3 ∧ Kd.R (Kd.int .u32) 33 w' w.heap.size (fun k_ => some k_ ≠ (v2_ : Value).ownBlock) v3_ r4 ∧ Below w.heap.size w w' := by
 have hu38 := Try.underlying38
 have HR0_2 := Aside0.mk hr0_2
 have HC0_2 := Aside0.mk hc0_2
 clear hr0_2 hc0_2
 have HR0_3 := Aside0.mk hr0_3
 have HC0_3 := Aside0.mk hc0_3
 clear hr0_3 hc0_3
 have HB := Aside0.mk (Below.refl w.heap.size w)
 have H : ((some (([] : List Int) : List Int)).bind fun y3 => (if y3.length + l0_2.length < 35184372088832 then ((some (([] : List Int) : List Int)).bind fun y9 => (if y9.length + l0_3.length < 35184372088832 then (some (a0_0, a0_1, (y3 ++ l0_2), (y9 ++ l0_3), a0_4, a0_5, a0_6, a0_7)) else (none))) else (none))) = some (r1, r2, r3, r4, r5, r6, r7, r8) := h
 clear h
 obtain ⟨y3, hy3⟩ : ∃ y_ : List Int, y_ = (([] : List Int)) := ⟨_, rfl⟩
 replace H : (if y3.length + l0_2.length < 35184372088832 then ((some (([] : List Int) : List Int)).bind fun y9 => (if y9.length + l0_3.length < 35184372088832 then (some (a0_0, a0_1, (y3 ++ l0_2), (y9 ++ l0_3), a0_4, a0_5, a0_6, a0_7)) else (none))) else (none)) = some (r1, r2, r3, r4, r5, r6, r7, r8) := by first | (rw [hy3]; with_reducible exact H) | (have H2_ := (Option.bind_some _ _).symm.trans H; rw [hy3]; with_reducible exact H2_) | (have H2_ := (Option.bind_some _ _).symm.trans H; with_reducible exact H2_) | with_reducible exact H | (rw [hy3]; exact H) | exact H
 have Ny3 := Aside0.mk hy3
 clear hy3
 by_cases c2 : y3.length + l0_2.length < 35184372088832
 ·
  rw [if_pos c2] at H
  have LMc2 := Aside0.mk c2
  clear c2
  obtain ⟨y6, hy6⟩ : ∃ y_ : List Int, y_ = (y3 ++ l0_2) := ⟨_, rfl⟩
  replace H : ((some (([] : List Int) : List Int)).bind fun y9 => (if y9.length + l0_3.length < 35184372088832 then (some (a0_0, a0_1, y6, (y9 ++ l0_3), a0_4, a0_5, a0_6, a0_7)) else (none))) = some (r1, r2, r3, r4, r5, r6, r7, r8) := by first | (rw [hy6]; with_reducible exact H) | (have H2_ := (Option.bind_some _ _).symm.trans H; rw [hy6]; with_reducible exact H2_) | (have H2_ := (Option.bind_some _ _).symm.trans H; with_reducible exact H2_) | with_reducible exact H | (rw [hy6]; exact H) | exact H
  have Ny6 := Aside0.mk hy6
  clear hy6
  obtain ⟨y9, hy9⟩ : ∃ y_ : List Int, y_ = (([] : List Int)) := ⟨_, rfl⟩
  replace H : (if y9.length + l0_3.length < 35184372088832 then (some (a0_0, a0_1, y6, (y9 ++ l0_3), a0_4, a0_5, a0_6, a0_7)) else (none)) = some (r1, r2, r3, r4, r5, r6, r7, r8) := by first | (rw [hy9]; with_reducible exact H) | (have H2_ := (Option.bind_some _ _).symm.trans H; rw [hy9]; with_reducible exact H2_) | (have H2_ := (Option.bind_some _ _).symm.trans H; with_reducible exact H2_) | with_reducible exact H | (rw [hy9]; exact H) | exact H
  have Ny9 := Aside0.mk hy9
  clear hy9
  by_cases c3 : y9.length + l0_3.length < 35184372088832
  ·
   rw [if_pos c3] at H
   have LMc3 := Aside0.mk c3
   clear c3
   obtain ⟨y12, hy12⟩ : ∃ y_ : List Int, y_ = (y9 ++ l0_3) := ⟨_, rfl⟩
   replace H : (some (a0_0, a0_1, y6, y12, a0_4, a0_5, a0_6, a0_7)) = some (r1, r2, r3, r4, r5, r6, r7, r8) := by first | (rw [hy12]; with_reducible exact H) | (have H2_ := (Option.bind_some _ _).symm.trans H; rw [hy12]; with_reducible exact H2_) | (have H2_ := (Option.bind_some _ _).symm.trans H; with_reducible exact H2_) | with_reducible exact H | (rw [hy12]; exact H) | exact H
   have Ny12 := Aside0.mk hy12
   clear hy12
   simp only [Option.some.injEq, Prod.mk.injEq] at H
   obtain ⟨rfl, rfl, rfl, rfl, rfl, rfl, rfl, rfl⟩ := H
   go_enter Try.func37, Try.ntmps37
   go_wp2_with (first | ((with_reducible refine gate_dst (N := 1) rfl ?_); refine box_event ?hg (N := 1) ?hd (cs := #[.int .u32 a0_0, .int .i64 a0_1, .slice A0_2 l0_2.length c0_2, .slice A0_3 l0_3.length c0_3, .int .u32 a0_4, .int .u32 a0_5, .int .i64 a0_6, .int .u32 a0_7]) (t := 38) ?hr ?_; (case hd => rfl); (case hg => rfl); (case hr => first | (go_simp; done) | (go_simp; rfl)); intro gb1 hg w4 hbox hb; have BK1 := Aside0.mk (hbox); have GW1 := gwS hg HB; have GE1 := gwS hg HB; replace HB := hbS HB hb; clear hb hbox hg) | ((with_reducible refine gate_dst (N := 2) rfl ?_); refine box_event ?hg (N := 2) ?hd (cs := #[.int .u32 0, .int .i64 0, .slice none 0 0, .slice none 0 0, .int .u32 0, .int .u32 0, .int .i64 0, .int .u32 0]) (t := 38) ?hr ?_; (case hd => rfl); (case hg => rfl); (case hr => first | (go_simp; done) | (go_simp; rfl)); intro gb2 hg w5 hbox hb; have BK2 := Aside0.mk (hbox); have GW2 := gwS hg HB; have GE2 := gwS hg HB; have NB1_2 := nbL hg BK1; have NB2_1 := nbG hg BK1; replace BK1 := bkB BK1 hb; replace HB := hbS HB hb; clear hb hbox hg) | ((with_reducible refine gate_dst (N := 3) rfl ?_); refine Kd.R_lit (Kd.int .u32) _ 33 ?hg (N := 3) ?hd (xs := ([] : List Int)) (inner := []) (ok := fun _ => True) (okp := fun _ => True) ?hr ?hp (fun _ hk => hk) trivial (Below.refl _ _) (Nat.le_refl _) (by simp) ?_; (case hd => rfl); (case hg => rfl); (case hr => first | (go_simp; done) | (go_simp; rfl)); (case hp => exact (Reps.none _ _)); intro v4 w6 ho7 hb hg_ hnew_; clear hg_ hnew_; (first | rw [← Ny3.out] at ho7 | (simp only [Int.reduceToNat] at ho7; rw [← Ny3.out] at ho7)); have HO5 := Aside0.mk (Kd.R_lower ho7 (below_size (hbW HB))); replace BK1 := bkB BK1 hb; replace BK2 := bkB BK2 hb; replace HB := hbS HB hb; clear hb ho7; have hnb8 := NB1_2.out; have hnc8 := NB2_1.out; obtain ⟨hcz9_0, hcz9_1, hcz9_2, hcz9_3, hcz9_4, hcz9_5, hcz9_6, hcz9_7, hfz9_0, hfz9_1, hfz9_2, hfz9_3, hfz9_4, hfz9_5, hfz9_6, hfz9_7⟩ := bc8 BK1) | ((with_reducible refine gate_builtin (b := .append) (xs := #[.tmp 3, .tmp 5]) rfl ?_); at_builtin; refine Kd.R_append_rows (Kd.int .u32) (w0 := w) w.heap.size rfl (.tmp 3) (.tmp 5) 36 33 (.int .u32 0) 4 rfl Try.underlying36 info33 rfl (by decide) (by omega) v4 y3 l0_2 _ _ _ (fun _ => True) (fun _ => False) rfl rfl ?aO ?aR (fun _ _ h => h) (fun _ h => h.elim) ?aF ?aB ?aS ?aL ?_; (case aR => repeat (first | exact (Kd.C_below HR0_2.out HB.out) | (with_reducible refine Kd.C_alloc ?_ _) | (with_reducible refine Kd.C_drewN ?_ _) | (with_reducible refine Kd.C_drew ?_))); (case aB => exact (hbW HB)); (case aF => exact (fun _ _ => trivial)); (case aO => exact (rW HO5)); (case aS => exact (below_size (hbW HB))); (case aL => have := LMc2.out; omega); intro v7 w10 ho hb hg hat; rw [← Ny6.out] at ho; have n0_ := Aside0.mk (blk_grown (g := gb1) (o := .cells #[.int .u32 a0_0, .int .i64 a0_1, .slice A0_2 l0_2.length c0_2, .slice A0_3 l0_3.length c0_3, .int .u32 a0_4, .int .u32 a0_5, .int .i64 a0_6, .int .u32 a0_7] 38 (0, 0)) (bkW BK1) hg (Kd.R_ne HO5.out BK1.out (by decide))); have n1_ := Aside0.mk (blk_grown (g := gb2) (o := .cells #[.int .u32 0, .int .i64 0, .slice none 0 0, .slice none 0 0, .int .u32 0, .int .u32 0, .int .i64 0, .int .u32 0] 38 (0, 0)) (bkW BK2) hg (Kd.R_ne HO5.out BK2.out (by decide))); have n2_ := Aside0.mk (hb); have n3_ := Aside0.mk (ho); clear BK1; clear BK2; clear HB; clear HO5; have BK1 := n0_; have BK2 := n1_; have HB := n2_; have HO8 := n3_; clear n0_ n1_ n2_ n3_; clear ho hb hg hat; obtain ⟨Ao11, co11, eo11⟩ := Kd.R_slice HO8.out; subst eo11; obtain ⟨hcz12_0, hcz12_1, hcz12_2, hcz12_3, hcz12_4, hcz12_5, hcz12_6, hcz12_7, hfz12_0, hfz12_1, hfz12_2, hfz12_3, hfz12_4, hfz12_5, hfz12_6, hfz12_7⟩ := bc8 BK1) | ((with_reducible refine gate_dst (N := 8) rfl ?_); refine Kd.R_lit (Kd.int .u32) _ 33 ?hg (N := 8) ?hd (xs := ([] : List Int)) (inner := []) (ok := fun _ => True) (okp := fun _ => True) ?hr ?hp (fun _ hk => hk) trivial (Below.refl _ _) (Nat.le_refl _) (by simp) ?_; (case hd => rfl); (case hg => rfl); (case hr => first | (go_simp; done) | (go_simp; rfl)); (case hp => exact (Reps.none _ _)); intro v10 w13 ho14 hb hg_ hnew_; clear hg_ hnew_; (first | rw [← Ny9.out] at ho14 | (simp only [Int.reduceToNat] at ho14; rw [← Ny9.out] at ho14)); have HO11 := Aside0.mk (Kd.R_lower (Kd.R_new' ho14 (Kd.R_lt (rW HO8))) (below_size (hbW HB))); replace HO8 := Aside0.mk (Kd.R_elder' (rW HO8) (Kd.R_base ho14) hb); replace BK1 := Aside0.mk (blk_below (g := gb1) (o := .cells #[.int .u32 a0_0, .int .i64 a0_1, .slice Ao11 y6.length co11, .slice A0_3 l0_3.length c0_3, .int .u32 a0_4, .int .u32 a0_5, .int .i64 a0_6, .int .u32 a0_7] 38 (0, 0)) (by (with_reducible repeat (first | refine blk_drewN ?_ _ | refine blk_drew ?_ | refine blk_alloc ?_ _)); refine blk_put (cs := #[.int .u32 a0_0, .int .i64 a0_1, .slice A0_2 l0_2.length c0_2, .slice A0_3 l0_3.length c0_3, .int .u32 a0_4, .int .u32 a0_5, .int .i64 a0_6, .int .u32 a0_7]) ?_ 2 _ rfl; (with_reducible repeat (first | refine blk_drewN ?_ _ | refine blk_drew ?_ | refine blk_alloc ?_ _)); exact BK1.out) hb); replace BK2 := bvB BK2 hb; replace HB := hbS HB hb; clear hb ho14; obtain ⟨hcz15_0, hcz15_1, hcz15_2, hcz15_3, hcz15_4, hcz15_5, hcz15_6, hcz15_7, hfz15_0, hfz15_1, hfz15_2, hfz15_3, hfz15_4, hfz15_5, hfz15_6, hfz15_7⟩ := bc8 BK1) | ((with_reducible refine gate_builtin (b := .append) (xs := #[.tmp 8, .tmp 10]) rfl ?_); at_builtin; refine Kd.R_append_rows (Kd.int .u32) (w0 := w) w.heap.size rfl (.tmp 8) (.tmp 10) 36 33 (.int .u32 0) 4 rfl Try.underlying36 info33 rfl (by decide) (by omega) v10 y9 l0_3 _ _ _ (fun k_ => some k_ ≠ (.slice Ao11 y6.length co11 : Value).ownBlock) (fun _ => False) rfl rfl ?aO ?aR (fun _ _ h => h) (fun _ h => h.elim) ?aF ?aB ?aS ?aL ?_; (case aR => repeat (first | exact (Kd.C_below HR0_3.out HB.out) | (with_reducible refine Kd.C_alloc ?_ _) | (with_reducible refine Kd.C_drewN ?_ _) | (with_reducible refine Kd.C_drew ?_))); (case aB => exact (hbW HB)); (case aF => exact (fun k_ hk => Kd.fresh' (Kd.R_lt (rW HO8)) k_ hk)); (case aO => exact (by (with_reducible repeat (first | apply Kd.R_alloc | apply Kd.R_drewN | apply Kd.R_drew)); exact Kd.R_mono HO11.out (fun _ hk => hk.2))); (case aS => exact (below_size (hbW HB))); (case aL => have := LMc3.out; omega); intro v13 w16 ho hb hg hat; rw [← Ny12.out] at ho; have n0_ := Aside0.mk (blk_grown (g := gb1) (o := .cells #[.int .u32 a0_0, .int .i64 a0_1, .slice Ao11 y6.length co11, .slice A0_3 l0_3.length c0_3, .int .u32 a0_4, .int .u32 a0_5, .int .i64 a0_6, .int .u32 a0_7] 38 (0, 0)) (bkW BK1) hg (Kd.R_ne HO11.out BK1.out (by decide))); have n1_ := Aside0.mk (blk_grown (g := gb2) (o := .cells #[.int .u32 0, .int .i64 0, .slice none 0 0, .slice none 0 0, .int .u32 0, .int .u32 0, .int .i64 0, .int .u32 0] 38 (0, 0)) (bkW BK2) hg (Kd.R_ne HO11.out BK2.out (by decide))); have n2_ := Aside0.mk (Kd.R_after (ok := (fun _ => True)) (rW HO8) hg hat); have n3_ := Aside0.mk (hb); have n4_ := Aside0.mk (ho); clear BK1; clear BK2; clear HO8; clear HB; clear HO11; have BK1 := n0_; have BK2 := n1_; have HO8 := n2_; have HB := n3_; have HO14 := n4_; clear n0_ n1_ n2_ n3_ n4_; clear ho hb hg hat; obtain ⟨Ao17, co17, eo17⟩ := Kd.R_slice HO14.out; subst eo17; obtain ⟨hcz18_0, hcz18_1, hcz18_2, hcz18_3, hcz18_4, hcz18_5, hcz18_6, hcz18_7, hfz18_0, hfz18_1, hfz18_2, hfz18_3, hfz18_4, hfz18_5, hfz18_6, hfz18_7⟩ := bc8 BK1; obtain ⟨hcz19_0, hcz19_1, hcz19_2, hcz19_3, hcz19_4, hcz19_5, hcz19_6, hcz19_7, hfz19_0, hfz19_1, hfz19_2, hfz19_3, hfz19_4, hfz19_5, hfz19_6, hfz19_7⟩ := bc8 BK2))
   refine bodyPost_ret (results_cell_row rfl _ _ gb2 38 #[.int .u32 a0_0, .int .i64 a0_1, .slice Ao11 y6.length co11, .slice Ao17 y12.length co17, .int .u32 a0_4, .int .u32 a0_5, .int .i64 a0_6, .int .u32 a0_7] (0, 0) _ rfl (bp8 BK2) Try.underlying38 rfl (by kernel_rfl)) rfl ?_
   exact ⟨_, _, by first | rfl | (simp [errW_none, errW_some] <;> rfl) | (simp [*, errW_none, errW_some] <;> rfl), moR (rW HO8), moR (rW HO14), hbW HB⟩
  ·
   rw [if_neg c3] at H
   exact absurd H (by simp)
 ·
  rw [if_neg c2] at H
  exact absurd H (by simp)

/-! ### route_Canon: function 36 -/
def q6z.f (k : Nat) (a0_0 : Int) (a0_1 : Int) (l0_2 : List Int) (l0_3 : List Int) (a0_4 : Int) (a0_5 : Int) (a0_6 : Int) (a0_7 : Int) : Option (Int × Int × List Int × List Int × Int × Int × Int × Int) := (q5z.f a0_0 a0_1 l0_2 l0_3 a0_4 a0_5 a0_6 a0_7).bind fun bt3 => ((q1z.f bt3.1 bt3.2.1).bind fun bt15 => ((Sort_u32.f k bt3.2.2.2.1).bind fun t17 => ((Compact_u32.f t17).bind fun t18 => (some (bt15.1, bt15.2, bt3.2.2.1, t18, bt3.2.2.2.2.1, bt3.2.2.2.2.2.1, bt3.2.2.2.2.2.2.1, bt3.2.2.2.2.2.2.2)))))
theorem q6z.mono : ∀ a0 a1 a2 a3 a4 a5 a6 a7 k, LeO (q6z.f k a0 a1 a2 a3 a4 a5 a6 a7) (q6z.f (k + 1) a0 a1 a2 a3 a4 a5 a6 a7) := by
 intro a0 a1 a2 a3 a4 a5 a6 a7 k
 unfold q6z.f
 repeat' first
   | (with_reducible exact Sort_u32.mono _ _)
   | (with_reducible exact LeO.refl _)
   | (with_reducible exact LeO.none _)
   | (with_reducible refine LeO.ite ?_ ?_)
   | (with_reducible refine LeO.bind ?_ (fun _ => ?_))
   | exact Sort_u32.mono _ _
   | exact LeO.none _
   | refine LeO.ite ?_ ?_
   | refine LeO.bind ?_ (fun _ => ?_)
set_option maxHeartbeats 8000000 in
set_option maxRecDepth 100000 in
theorem q6z.calls (k : Nat) (a0_0 : Int) (a0_1 : Int) (A0_2 : Option Addr) (c0_2 : Nat) (l0_2 : List Int) (A0_3 : Option Addr) (c0_3 : Nat) (l0_3 : List Int) (a0_4 : Int) (a0_5 : Int) (a0_6 : Int) (a0_7 : Int) (r1 : Int) (r2 : Int) (r3 : List Int) (r4 : List Int) (r5 : Int) (r6 : Int) (r7 : Int) (r8 : Int) (w : World) (hr0_2 : Kd.C (Kd.int .u32) w A0_2 l0_2.length l0_2) (hc0_2 : l0_2.length ≤ c0_2) (hr0_3 : Kd.C (Kd.int .u32) w A0_3 l0_3.length l0_3) (hc0_3 : l0_3.length ≤ c0_3) (h : q6z.f k a0_0 a0_1 l0_2 l0_3 a0_4 a0_5 a0_6 a0_7 = some (r1, r2, r3, r4, r5, r6, r7, r8)) :
  Calls Try.prog 36 #[.agg #[.int .u32 a0_0, .int .i64 a0_1, .slice A0_2 l0_2.length c0_2, .slice A0_3 l0_3.length c0_3, .int .u32 a0_4, .int .u32 a0_5, .int .i64 a0_6, .int .u32 a0_7]] w fun e w' => ∃ v2_ v3_ : Value, e = .returned (.agg #[.int .u32 r1, .int .i64 r2, v2_, v3_, .int .u32 r5, .int .u32 r6, .int .i64 r7, .int .u32 r8]) ∧ Kd.R (Kd.int .u32) 33 w' w.heap.size (fun k_ => some k_ ≠ (v3_ : Value).ownBlock) v2_ r3 ∧ Kd.R (Kd.int .u32) 33 w' w.heap.size (fun k_ => some k_ ≠ (v2_ : Value).ownBlock) v3_ r4 ∧ Below w.heap.size w w' := by
 have hu38 := Try.underlying38
 have hu35 := Try.underlying35
 have HR0_2 := Aside0.mk hr0_2
 have HC0_2 := Aside0.mk hc0_2
 clear hr0_2 hc0_2
 have HR0_3 := Aside0.mk hr0_3
 have HC0_3 := Aside0.mk hc0_3
 clear hr0_3 hc0_3
 have HB := Aside0.mk (Below.refl w.heap.size w)
 have H : ((q5z.f a0_0 a0_1 l0_2 l0_3 a0_4 a0_5 a0_6 a0_7).bind fun bt3 => ((q1z.f bt3.1 bt3.2.1).bind fun bt15 => ((Sort_u32.f k bt3.2.2.2.1).bind fun t17 => ((Compact_u32.f t17).bind fun t18 => (some (bt15.1, bt15.2, bt3.2.2.1, t18, bt3.2.2.2.2.1, bt3.2.2.2.2.2.1, bt3.2.2.2.2.2.2.1, bt3.2.2.2.2.2.2.2)))))) = some (r1, r2, r3, r4, r5, r6, r7, r8) := h
 clear h
 replace H := Option.bind_eq_some_iff.mp H
 obtain ⟨⟨t3, t4, t5, t8, t11, t12, t13, t14⟩, A20, H⟩ := H
 replace H : ((q1z.f t3 t4).bind fun bt15 => ((Sort_u32.f k t8).bind fun t17 => ((Compact_u32.f t17).bind fun t18 => (some (bt15.1, bt15.2, t5, t18, t11, t12, t13, t14))))) = some (r1, r2, r3, r4, r5, r6, r7, r8) := H
 have A2 := Aside0.mk A20
 clear A20
 replace H := Option.bind_eq_some_iff.mp H
 obtain ⟨⟨t15, t16⟩, A30, H⟩ := H
 replace H : ((Sort_u32.f k t8).bind fun t17 => ((Compact_u32.f t17).bind fun t18 => (some (t15, t16, t5, t18, t11, t12, t13, t14)))) = some (r1, r2, r3, r4, r5, r6, r7, r8) := H
 have A3 := Aside0.mk A30
 clear A30
 replace H := Option.bind_eq_some_iff.mp H
 obtain ⟨t17, A40, H⟩ := H
 replace H : ((Compact_u32.f t17).bind fun t18 => (some (t15, t16, t5, t18, t11, t12, t13, t14))) = some (r1, r2, r3, r4, r5, r6, r7, r8) := H
 have A4 := Aside0.mk A40
 clear A40
 replace H := Option.bind_eq_some_iff.mp H
 obtain ⟨t18, A50, H⟩ := H
 replace H : (some (t15, t16, t5, t18, t11, t12, t13, t14)) = some (r1, r2, r3, r4, r5, r6, r7, r8) := H
 have A5 := Aside0.mk A50
 clear A50
 simp only [Option.some.injEq, Prod.mk.injEq] at H
 obtain ⟨rfl, rfl, rfl, rfl, rfl, rfl, rfl, rfl⟩ := H
 go_enter Try.func36, Try.ntmps36
 go_wp2_with (first | ((with_reducible refine gate_dst (N := 1) rfl ?_); refine box_event ?hg (N := 1) ?hd (cs := #[.int .u32 a0_0, .int .i64 a0_1, .slice A0_2 l0_2.length c0_2, .slice A0_3 l0_3.length c0_3, .int .u32 a0_4, .int .u32 a0_5, .int .i64 a0_6, .int .u32 a0_7]) (t := 38) ?hr ?_; (case hd => rfl); (case hg => rfl); (case hr => first | (go_simp; done) | (go_simp; rfl)); intro gb1 hg w6 hbox hb; have BK1 := Aside0.mk (hbox); have GW1 := gwS hg HB; have GE1 := gwS hg HB; replace HB := hbS HB hb; clear hb hbox hg) | ((with_reducible refine gate_dst (N := 2) rfl ?_); refine box_event ?hg (N := 2) ?hd (cs := #[.int .u32 0, .int .i64 0, .slice none 0 0, .slice none 0 0, .int .u32 0, .int .u32 0, .int .i64 0, .int .u32 0]) (t := 38) ?hr ?_; (case hd => rfl); (case hg => rfl); (case hr => first | (go_simp; done) | (go_simp; rfl)); intro gb2 hg w7 hbox hb; have BK2 := Aside0.mk (hbox); have GW2 := gwS hg HB; have GE2 := gwS hg HB; have NB1_2 := nbL hg BK1; have NB2_1 := nbG hg BK1; replace BK1 := bkB BK1 hb; replace HB := hbS HB hb; clear hb hbox hg; have hnb8 := NB1_2.out; have hnc8 := NB2_1.out; obtain ⟨hcz9_0, hcz9_1, hcz9_2, hcz9_3, hcz9_4, hcz9_5, hcz9_6, hcz9_7, hfz9_0, hfz9_1, hfz9_2, hfz9_3, hfz9_4, hfz9_5, hfz9_6, hfz9_7⟩ := bc8 BK1) | ((with_reducible refine gate_callee (f := 37) rfl ?_); refine goesL_ (some 4) rfl rfl Try.func37 (by kernel_rfl) rfl #[.agg #[.int .u32 a0_0, .int .i64 a0_1, .slice A0_2 l0_2.length c0_2, .slice A0_3 l0_3.length c0_3, .int .u32 a0_4, .int .u32 a0_5, .int .i64 a0_6, .int .u32 a0_7]] rfl (by (try simp only [List.map_toArray, List.map_cons, List.map_nil]); first | done | rfl | (simp only [List.length_drop, List.length_take]; rfl)) ?_; (with_reducible refine (q5z.calls a0_0 a0_1 _ _ l0_2 _ _ l0_3 a0_4 a0_5 a0_6 a0_7 t3 t4 t5 t8 t11 t12 t13 t14 _ ?side1 ?side2 ?side3 ?side4 A2.out).mono ?_); (case side1 => repeat (first | exact (Kd.C_below HR0_2.out HB.out) | (with_reducible refine Kd.C_alloc ?_ _) | (with_reducible refine Kd.C_drewN ?_ _) | (with_reducible refine Kd.C_drew ?_))); (case side2 => exact HC0_2.out); (case side3 => repeat (first | exact (Kd.C_below HR0_3.out HB.out) | (with_reducible refine Kd.C_alloc ?_ _) | (with_reducible refine Kd.C_drewN ?_ _) | (with_reducible refine Kd.C_drew ?_))); (case side4 => exact HC0_3.out); rintro e w10 ⟨v6, v9, rfl, ho0, ho1, hb⟩; refine ⟨_, rfl, ?_⟩; have HO7 := Aside0.mk (Kd.R_lower ho0 (below_size (hbW HB))); have HO10 := Aside0.mk (Kd.R_lower ho1 (below_size (hbW HB))); replace BK1 := bkB BK1 hb; replace BK2 := bkB BK2 hb; replace HB := hbS HB hb; (try clear hb); (try clear ho0); (try clear ho1); obtain ⟨hcz11_0, hcz11_1, hcz11_2, hcz11_3, hcz11_4, hcz11_5, hcz11_6, hcz11_7, hfz11_0, hfz11_1, hfz11_2, hfz11_3, hfz11_4, hfz11_5, hfz11_6, hfz11_7⟩ := bc8 BK1; obtain ⟨Ao12, co12, eo12⟩ := Kd.R_slice HO7.out; subst eo12; obtain ⟨Ao13, co13, eo13⟩ := Kd.R_slice HO10.out; subst eo13) | ((with_reducible refine gate_callee (f := 32) rfl ?_); refine goesL_ (some 7) rfl rfl Try.func32 (by kernel_rfl) rfl #[.agg #[.int .u32 t3, .int .i64 t4]] rfl (by (try simp only [List.map_toArray, List.map_cons, List.map_nil]); first | done | rfl | (simp only [List.length_drop, List.length_take]; rfl)) ?_; (with_reducible refine (q1z.calls t3 t4 t15 t16 _ A3.out).mono ?_); rintro e w14 ⟨rfl, hb⟩; refine ⟨_, rfl, ?_⟩; replace HO7 := Aside0.mk (Kd.R_below (rW HO7) hb); replace HO10 := Aside0.mk (Kd.R_below (rW HO10) hb); replace BK1 := Aside0.mk (blk_below (g := gb1) (o := .cells #[.int .u32 t3, .int .i64 t4, .slice Ao12 t5.length co12, .slice Ao13 t8.length co13, .int .u32 t11, .int .u32 t12, .int .i64 t13, .int .u32 t14] 38 (0, 0)) (bp8 BK1) hb); replace BK2 := bvB BK2 hb; replace HB := hbS HB hb; (try clear hb); obtain ⟨hcz15_0, hcz15_1, hcz15_2, hcz15_3, hcz15_4, hcz15_5, hcz15_6, hcz15_7, hfz15_0, hfz15_1, hfz15_2, hfz15_3, hfz15_4, hfz15_5, hfz15_6, hfz15_7⟩ := bc8 BK1) | ((with_reducible refine gate_store (t := 35) (p := 8) rfl ?_); refine store_event (t := 35) (p := 8) (v := ?vo_w16) (w1 := ((w14.setCell ⟨gb1, 0, none⟩ (.int .u32 t15)).setCell ⟨gb1, 1, none⟩ (.int .i64 t16))) ?hg ?ho ?hn ?hr ?_; (case ho => rfl); (case hg => rfl); (case hn => rfl); (case hr => first | (go_simp; done) | (go_simp; rfl)); intro w16 hw; have n0_ : Aside0 (Kd.R (Kd.int .u32) 33 w16 w.heap.size (fun k_ => some k_ ≠ (.slice Ao13 t8.length co13 : Value).ownBlock) (.slice Ao12 t5.length co12) t5) := ⟨(by rw [hw]; exact (rW HO7))⟩; have n1_ : Aside0 (Kd.R (Kd.int .u32) 33 w16 w.heap.size (fun k_ => some k_ ≠ (.slice Ao12 t5.length co12 : Value).ownBlock) (.slice Ao13 t8.length co13) t8) := ⟨(by rw [hw]; exact (rW HO10))⟩; have n2_ : Aside0 (w16.heap[gb1]? = some (.cells #[.int .u32 t15, .int .i64 t16, .slice Ao12 t5.length co12, .slice Ao13 t8.length co13, .int .u32 t11, .int .u32 t12, .int .i64 t13, .int .u32 t14] 38 (0, 0))) := ⟨(by rw [hw]; exact (by (with_reducible repeat (first | refine blk_drewN ?_ _ | refine blk_drew ?_ | refine blk_alloc ?_ _)); refine blk_put (cs := #[.int .u32 t15, .int .i64 t4, .slice Ao12 t5.length co12, .slice Ao13 t8.length co13, .int .u32 t11, .int .u32 t12, .int .i64 t13, .int .u32 t14]) ?_ 1 _ rfl; (with_reducible repeat (first | refine blk_drewN ?_ _ | refine blk_drew ?_ | refine blk_alloc ?_ _)); refine blk_put (cs := #[.int .u32 t3, .int .i64 t4, .slice Ao12 t5.length co12, .slice Ao13 t8.length co13, .int .u32 t11, .int .u32 t12, .int .i64 t13, .int .u32 t14]) ?_ 0 _ rfl; (with_reducible repeat (first | refine blk_drewN ?_ _ | refine blk_drew ?_ | refine blk_alloc ?_ _)); exact BK1.out))⟩; have n3_ : Aside0 (w16.heap[gb2]? = some (.cells #[.int .u32 0, .int .i64 0, .slice none 0 0, .slice none 0 0, .int .u32 0, .int .u32 0, .int .i64 0, .int .u32 0] 38 (0, 0))) := ⟨(by rw [hw]; exact (bkV BK2))⟩; have n4_ : Aside0 (Below w.heap.size w w16) := ⟨(by rw [hw]; exact (hbW HB))⟩; clear hw; clear HO7; clear HO10; clear BK1; clear BK2; clear HB; have HO7 := n0_; have HO10 := n1_; have BK1 := n2_; have BK2 := n3_; have HB := n4_; clear n0_ n1_ n2_ n3_ n4_; obtain ⟨hcz17_0, hcz17_1, hcz17_2, hcz17_3, hcz17_4, hcz17_5, hcz17_6, hcz17_7, hfz17_0, hfz17_1, hfz17_2, hfz17_3, hfz17_4, hfz17_5, hfz17_6, hfz17_7⟩ := bc8 BK1) | ((with_reducible refine gate_callee (f := 59) rfl ?_); refine goesL_ (some 11) rfl rfl Try.func59 (by kernel_rfl) rfl #[.slice Ao13 t8.length co13] rfl (by (try simp only [List.map_toArray, List.map_cons, List.map_nil]); first | done | rfl | (simp only [List.length_drop, List.length_take]; rfl)) ?_; (with_reducible refine (Sort_u32.calls k (fun k_ => some k_ = (.slice Ao13 t8.length co13 : Value).ownBlock) (.slice Ao13 t8.length co13) t8 t17 w _ ?side1 ?side2 A4.out).mono ?_); (case side1 => exact hbW HB); (case side2 => exact Kd.R_tight rfl HO10.out); rintro e w18 ⟨rfl, hy0, hb, hkp⟩; refine ⟨_, rfl, ?_⟩; replace BK1 := Aside0.mk (blk_kept (bkW BK1) hkp (fun hs_ => (fun e_ => (Kd.R_ne HO10.out BK1.out (by decide)) e_) hs_)); replace BK2 := Aside0.mk (blk_kept (bkW BK2) hkp (fun hs_ => (fun e_ => (Kd.R_ne HO10.out BK2.out (by decide)) e_) hs_)); replace HO7 := Aside0.mk (Kd.R_mono (ok' := fun k_ => some k_ ≠ (.slice Ao13 t8.length co13 : Value).ownBlock) (Kd.R_keptB (HO7.out) hkp (fun k_ hk_ hs_ => (hk_) hs_)) (fun k_ hk_ => hk_.1)); replace HO10 := Aside0.mk (Kd.R_reok rfl hy0 (fun k_ e_ => HO10.out.1 k_ e_)); replace HB := Aside0.mk (hb); (try clear hb); (try clear hkp); (try clear hy0); obtain ⟨hcz19_0, hcz19_1, hcz19_2, hcz19_3, hcz19_4, hcz19_5, hcz19_6, hcz19_7, hfz19_0, hfz19_1, hfz19_2, hfz19_3, hfz19_4, hfz19_5, hfz19_6, hfz19_7⟩ := bc8 BK1) | ((with_reducible refine gate_callee (f := 60) rfl ?_); refine goesL_ (some 14) rfl rfl Try.func60 (by kernel_rfl) rfl #[.slice Ao13 t8.length co13] rfl (by (try simp only [List.map_toArray, List.map_cons, List.map_nil]); first | done | rfl | (simp only [List.length_drop, List.length_take]; rfl)) ?_; (with_reducible refine (Compact_u32.calls (fun k_ => some k_ = (.slice Ao13 t8.length co13 : Value).ownBlock) (.slice Ao13 t8.length co13) t17 t18 w _ ?side1 ?side2 A5.out).mono ?_); (case side1 => exact hbW HB); (case side2 => exact Kd.R_tight rfl HO10.out); rintro e w20 ⟨v19, rfl, ho0, hb, hkp⟩; refine ⟨_, rfl, ?_⟩; have n0_ := Aside0.mk (blk_kept (bkW BK1) hkp (fun hs_ => (fun e_ => (Kd.R_ne HO10.out BK1.out (by decide)) e_) hs_)); have n1_ := Aside0.mk (blk_kept (bkW BK2) hkp (fun hs_ => (fun e_ => (Kd.R_ne HO10.out BK2.out (by decide)) e_) hs_)); have n2_ := Aside0.mk (Kd.R_mono (ok' := fun k_ => some k_ ≠ (v19 : Value).ownBlock) (Kd.R_keptB (HO7.out) hkp (fun k_ hk_ hs_ => (hk_) hs_)) (fun k_ hk_ => fun e_ => Or.elim (ho0.1 k_ e_.symm) (fun hs_ => hk_.2.1 hs_) (fun hn_ => Nat.not_le.2 hk_.2.2 hn_))); have n3_ := Aside0.mk (Kd.R_mono (ok' := fun k_ => some k_ ≠ (.slice Ao12 t5.length co12 : Value).ownBlock) ho0 (fun k_ hk_ => Or.elim hk_ (fun hs_ => fun e_ => (((HO7.out).1 k_ e_.symm)) hs_) (fun hn_ => (Kd.fresh' (Kd.R_lt (rW HO7)) k_ hn_)))); have n4_ := Aside0.mk (hb); clear BK1; clear BK2; clear HO7; clear HB; clear HO10; have BK1 := n0_; have BK2 := n1_; have HO7 := n2_; have HO20 := n3_; have HB := n4_; clear n0_ n1_ n2_ n3_ n4_; (try clear hb); (try clear hkp); (try clear ho0); obtain ⟨Ao21, co21, eo21⟩ := Kd.R_slice HO20.out; subst eo21; obtain ⟨hcz22_0, hcz22_1, hcz22_2, hcz22_3, hcz22_4, hcz22_5, hcz22_6, hcz22_7, hfz22_0, hfz22_1, hfz22_2, hfz22_3, hfz22_4, hfz22_5, hfz22_6, hfz22_7⟩ := bc8 BK1; obtain ⟨hcz23_0, hcz23_1, hcz23_2, hcz23_3, hcz23_4, hcz23_5, hcz23_6, hcz23_7, hfz23_0, hfz23_1, hfz23_2, hfz23_3, hfz23_4, hfz23_5, hfz23_6, hfz23_7⟩ := bc8 BK2))
 refine bodyPost_ret (results_cell_row rfl _ _ gb2 38 #[.int .u32 t15, .int .i64 t16, .slice Ao12 t5.length co12, .slice Ao21 t18.length co21, .int .u32 t11, .int .u32 t12, .int .i64 t13, .int .u32 t14] (0, 0) _ rfl (bp8 BK2) Try.underlying38 rfl (by kernel_rfl)) rfl ?_
 exact ⟨_, _, by first | rfl | (simp [errW_none, errW_some] <;> rfl) | (simp [*, errW_none, errW_some] <;> rfl), moR (rW HO7), moR (rW HO20), hbW HB⟩

/-! ### route_first: function 64 -/
def q7z.l0 : Nat → List Int → Int → Int → Option (Int)
 | 0, _, _, _ => none
 | k + 1, x5, x6, x7 => if x7 < x6 then (if 0 ≤ x7 then (if x7 < (x5.length : Int) then (if (rd x5 x7) = 0 then (q7z.l0 k x5 x6 (wrap64 (x7 + 1))) else (some (rd x5 x7))) else (none)) else (none)) else (some 0)
def q7z.f (k : Nat) (l0 : List Int) : Option (Int) := q7z.l0 k l0 (l0.length : Int) 0
theorem q7z.mono_l : ∀ k, (∀ y0 y1 y2, LeO (q7z.l0 k y0 y1 y2) (q7z.l0 (k + 1) y0 y1 y2))
 | 0 => fun _ _ _ r h => by simp [q7z.l0] at h
 | k + 1 => by
  have ih0 := q7z.mono_l k
  ·
   intro y0 y1 y2
   unfold q7z.l0
   repeat' first
   | (with_reducible exact ih0 _ _ _)
   | (with_reducible exact LeO.refl _)
   | (with_reducible exact LeO.none _)
   | (with_reducible refine LeO.ite ?_ ?_)
   | (with_reducible refine LeO.bind ?_ (fun _ => ?_))
   | exact ih0 _ _ _
   | exact LeO.none _
   | refine LeO.ite ?_ ?_
   | refine LeO.bind ?_ (fun _ => ?_)
theorem q7z.mono : ∀ a0 k, LeO (q7z.f k a0) (q7z.f (k + 1) a0) := by
 intro a0 k
 have ih0 := q7z.mono_l k
 unfold q7z.f
 repeat' first
   | (with_reducible exact ih0 _ _ _)
   | (with_reducible exact LeO.refl _)
   | (with_reducible exact LeO.none _)
   | (with_reducible refine LeO.ite ?_ ?_)
   | (with_reducible refine LeO.bind ?_ (fun _ => ?_))
   | exact ih0 _ _ _
   | exact LeO.none _
   | refine LeO.ite ?_ ?_
   | refine LeO.bind ?_ (fun _ => ?_)
set_option maxHeartbeats 8000000 in
set_option maxRecDepth 100000 in
theorem q7z.calls (k : Nat) (A0 : Option Addr) (c0 : Nat) (l0 : List Int) (r : Int) (w : World) (hr0 : Kd.C (Kd.int .i64) w A0 l0.length l0) (hc0 : l0.length ≤ c0) (h : q7z.f k l0 = some r) :
  Calls Try.prog 64 #[.slice A0 l0.length c0] w fun e w' => e = .returned (.int .i64 r) ∧ Drawn0 w w' := by
 have HR0 := Aside0.mk hr0
 have HC0 := Aside0.mk hc0
 clear hr0 hc0
 have H : (q7z.l0 k l0 (l0.length : Int) 0) = some r := h
 clear h
 have H' := Aside0.mk H
 clear H
 go_enter Try.func64, Try.ntmps64
 go_wp2
 go_loopg [7] k (fun kq v7 w' => ∃ (x7_1 : Int), v7 = .int .i64 x7_1 ∧ Aside0 (q7z.l0 kq l0 (l0.length : Int) x7_1 = some r) ∧ Aside0 (kq ≤ k) ∧ Drawn0 w w')
 case atStart => exact ⟨(0), (by first | rfl | (simp; done) | (simp [*]; done)), H', ⟨Nat.le_refl _⟩, by repeat (first | exact Drawn0.refl _ | apply Drawn0.step)⟩
 case round =>
  clear H'
  obtain ⟨x7_1, rfl, HA, HK1, ⟨m1, rfl⟩⟩ := hrel
  cases gk with
  | zero => exact absurd HA.out (by simp [q7z.l0])
  | succ k1 =>
   have H := HA.out
   clear HA
   simp only [q7z.l0] at H
   by_cases c2 : x7_1 < (l0.length : Int)
   ·
    rw [if_pos c2] at H
    have c2b0 : decide (x7_1 < (l0.length : Int)) = true := decide_eq_true c2
    clear c2
    by_cases c3 : 0 ≤ x7_1
    ·
     rw [if_pos c3] at H
     have c3b0 : decide (0 ≤ x7_1) = true := decide_eq_true c3
     clear c3
     by_cases c4 : x7_1 < (l0.length : Int)
     ·
      rw [if_pos c4] at H
      have c4b0 : decide (x7_1 < (l0.length : Int)) = true := decide_eq_true c4
      clear c4
      by_cases c5 : (rd l0 x7_1) = 0
      ·
       rw [if_pos c5] at H
       have c5b0 : ((rd l0 x7_1) == 0) = true := beq_iff_eq.mpr c5
       have c5b1 : ((rd l0 x7_1) != 0) = false := bne_eq_false_iff_eq.mpr c5
       clear c5
       have H' := Aside0.mk H
       clear H
       have p1 : 0 ≤ (x7_1 : Int) := of_decide_eq_true (by first | (with_reducible assumption) | assumption)
       have q1 : x7_1 < (l0.length : Int) := of_decide_eq_true (by first | (with_reducible assumption) | assumption)
       obtain ⟨ad1, e1, hx1_0⟩ := Kd.at_int HR0.out x7_1 p1 q1
       cases e1
       replace p1 := eq_true p1
       replace q1 := eq_true q1
       go_wp2
       go_roundg k1
       case measure => have := HK1.out; omega
       case rel => exact ⟨(wrap64 (x7_1 + 1)), (by first | rfl | (simp; done) | (simp [*]; done)), H', ⟨by have := HK1.out; omega⟩, by repeat (first | exact Drawn0.refl _ | apply Drawn0.step)⟩
      ·
       rw [if_neg c5] at H
       have c5b0 : ((rd l0 x7_1) == 0) = false := beq_eq_false_iff_ne.mpr c5
       have c5b1 : ((rd l0 x7_1) != 0) = true := bne_iff_ne.mpr c5
       obtain rfl := Option.some.inj H
       have p1 : 0 ≤ (x7_1 : Int) := of_decide_eq_true (by first | (with_reducible assumption) | assumption)
       have q1 : x7_1 < (l0.length : Int) := of_decide_eq_true (by first | (with_reducible assumption) | assumption)
       obtain ⟨ad1, e1, hx1_0⟩ := Kd.at_int HR0.out x7_1 p1 q1
       cases e1
       replace p1 := eq_true p1
       replace q1 := eq_true q1
       go_wp2
       go_ret
       exact ⟨by first | rfl | (simp; done) | (simp [*]; done), by repeat (first | exact Drawn0.refl _ | apply Drawn0.step)⟩
     ·
      rw [if_neg c4] at H
      exact absurd H (by simp)
    ·
     rw [if_neg c3] at H
     exact absurd H (by simp)
   ·
    rw [if_neg c2] at H
    have c2b0 : decide (x7_1 < (l0.length : Int)) = false := decide_eq_false c2
    clear c2
    obtain rfl := Option.some.inj H
    go_wp2
    go_ret
    exact ⟨by first | rfl | (simp; done) | (simp [*]; done), by repeat (first | exact Drawn0.refl _ | apply Drawn0.step)⟩

/-! ### cmp_isNaN_uint32: function 77 -/
def q8z.f (a0 : Int) : Option (Bool) := some (a0 != a0)
set_option maxHeartbeats 8000000 in
set_option maxRecDepth 100000 in
theorem q8z.calls (a0 : Int) (r : Bool) (w : World) (h : q8z.f a0 = some r) :
  Calls Try.prog 77 #[.int .u32 a0] w fun e w' => e = .returned (.bool r) ∧ Drawn0 w w' := by
 have H : (some (a0 != a0)) = some r := h
 clear h
 obtain rfl := Option.some.inj H
 go_enter Try.func77, Try.ntmps77
 go_wp2
 go_ret
 exact ⟨by first | rfl | (simp; done) | (simp [*]; done), by repeat (first | exact Drawn0.refl _ | apply Drawn0.step)⟩

/-! ### cmp_Compare_uint32: function 65 -/
def q9z.f (a0 : Int) (a1 : Int) : Option (Int) := (q8z.f a0).bind fun t1 => ((q8z.f a1).bind fun t2 => (if t1 = true then (if t2 = true then (some 0) else (some (-1))) else (if t2 = true then (some 1) else (if a0 < a1 then (some (-1)) else (if a0 > a1 then (some 1) else (some 0))))))
set_option maxHeartbeats 8000000 in
set_option maxRecDepth 100000 in
theorem q9z.calls (a0 : Int) (a1 : Int) (r : Int) (w : World) (h : q9z.f a0 a1 = some r) :
  Calls Try.prog 65 #[.int .u32 a0, .int .u32 a1] w fun e w' => e = .returned (.int .i64 r) ∧ Drawn0 w w' := by
 have H : ((q8z.f a0).bind fun t1 => ((q8z.f a1).bind fun t2 => (if t1 = true then (if t2 = true then (some 0) else (some (-1))) else (if t2 = true then (some 1) else (if a0 < a1 then (some (-1)) else (if a0 > a1 then (some 1) else (some 0))))))) = some r := h
 clear h
 replace H := Option.bind_eq_some_iff.mp H
 obtain ⟨t1, A30, H⟩ := H
 replace H : ((q8z.f a1).bind fun t2 => (if t1 = true then (if t2 = true then (some 0) else (some (-1))) else (if t2 = true then (some 1) else (if a0 < a1 then (some (-1)) else (if a0 > a1 then (some 1) else (some 0)))))) = some r := H
 have A3 := Aside0.mk A30
 clear A30
 replace H := Option.bind_eq_some_iff.mp H
 obtain ⟨t2, A40, H⟩ := H
 replace H : (if t1 = true then (if t2 = true then (some 0) else (some (-1))) else (if t2 = true then (some 1) else (if a0 < a1 then (some (-1)) else (if a0 > a1 then (some 1) else (some 0))))) = some r := H
 have A4 := Aside0.mk A40
 clear A40
 by_cases c5 : t1 = true
 ·
  subst c5
  have H1 : (if t2 = true then (some 0) else (some (-1))) = some r := by rw [if_pos rfl] at H; exact H
  clear H
  have H := H1
  clear H1
  by_cases c6 : t2 = true
  ·
   subst c6
   have H1 : (some 0) = some r := by rw [if_pos rfl] at H; exact H
   clear H
   have H := H1
   clear H1
   obtain rfl := Option.some.inj H
   go_enter Try.func65, Try.ntmps65
   go_wp2_with (first | ((with_reducible refine gate_callee (f := 77) rfl ?_); refine goesL_ (some 8) rfl rfl Try.func77 (by kernel_rfl) rfl #[.int .u32 a0] rfl (by (try simp only [List.map_toArray, List.map_cons, List.map_nil]); first | done | rfl | (simp only [List.length_drop, List.length_take]; rfl)) ?_; (with_reducible refine (q8z.calls a0 true _ A3.out).mono ?_); rintro e w' ⟨rfl, ⟨nd, rfl⟩⟩; refine ⟨_, rfl, ?_⟩) | ((with_reducible refine gate_callee (f := 77) rfl ?_); refine goesL_ (some 10) rfl rfl Try.func77 (by kernel_rfl) rfl #[.int .u32 a1] rfl (by (try simp only [List.map_toArray, List.map_cons, List.map_nil]); first | done | rfl | (simp only [List.length_drop, List.length_take]; rfl)) ?_; (with_reducible refine (q8z.calls a1 true _ A4.out).mono ?_); rintro e w' ⟨rfl, ⟨nd, rfl⟩⟩; refine ⟨_, rfl, ?_⟩))
   go_ret
   exact ⟨by first | rfl | (simp; done) | (simp [*]; done), by repeat (first | exact Drawn0.refl _ | apply Drawn0.step)⟩
  ·
   replace c6 := Bool.eq_false_iff.mpr c6
   subst c6
   have H1 : (some (-1)) = some r := by rw [if_neg (show ¬ (false = true) by decide)] at H; exact H
   clear H
   have H := H1
   clear H1
   obtain rfl := Option.some.inj H
   go_enter Try.func65, Try.ntmps65
   go_wp2_with (first | ((with_reducible refine gate_callee (f := 77) rfl ?_); refine goesL_ (some 8) rfl rfl Try.func77 (by kernel_rfl) rfl #[.int .u32 a0] rfl (by (try simp only [List.map_toArray, List.map_cons, List.map_nil]); first | done | rfl | (simp only [List.length_drop, List.length_take]; rfl)) ?_; (with_reducible refine (q8z.calls a0 true _ A3.out).mono ?_); rintro e w' ⟨rfl, ⟨nd, rfl⟩⟩; refine ⟨_, rfl, ?_⟩) | ((with_reducible refine gate_callee (f := 77) rfl ?_); refine goesL_ (some 10) rfl rfl Try.func77 (by kernel_rfl) rfl #[.int .u32 a1] rfl (by (try simp only [List.map_toArray, List.map_cons, List.map_nil]); first | done | rfl | (simp only [List.length_drop, List.length_take]; rfl)) ?_; (with_reducible refine (q8z.calls a1 false _ A4.out).mono ?_); rintro e w' ⟨rfl, ⟨nd, rfl⟩⟩; refine ⟨_, rfl, ?_⟩))
   go_ret
   exact ⟨by first | rfl | (simp; done) | (simp [*]; done), by repeat (first | exact Drawn0.refl _ | apply Drawn0.step)⟩
 ·
  replace c5 := Bool.eq_false_iff.mpr c5
  subst c5
  have H1 : (if t2 = true then (some 1) else (if a0 < a1 then (some (-1)) else (if a0 > a1 then (some 1) else (some 0)))) = some r := by rw [if_neg (show ¬ (false = true) by decide)] at H; exact H
  clear H
  have H := H1
  clear H1
  by_cases c7 : t2 = true
  ·
   subst c7
   have H1 : (some 1) = some r := by rw [if_pos rfl] at H; exact H
   clear H
   have H := H1
   clear H1
   obtain rfl := Option.some.inj H
   go_enter Try.func65, Try.ntmps65
   go_wp2_with (first | ((with_reducible refine gate_callee (f := 77) rfl ?_); refine goesL_ (some 8) rfl rfl Try.func77 (by kernel_rfl) rfl #[.int .u32 a0] rfl (by (try simp only [List.map_toArray, List.map_cons, List.map_nil]); first | done | rfl | (simp only [List.length_drop, List.length_take]; rfl)) ?_; (with_reducible refine (q8z.calls a0 false _ A3.out).mono ?_); rintro e w' ⟨rfl, ⟨nd, rfl⟩⟩; refine ⟨_, rfl, ?_⟩) | ((with_reducible refine gate_callee (f := 77) rfl ?_); refine goesL_ (some 10) rfl rfl Try.func77 (by kernel_rfl) rfl #[.int .u32 a1] rfl (by (try simp only [List.map_toArray, List.map_cons, List.map_nil]); first | done | rfl | (simp only [List.length_drop, List.length_take]; rfl)) ?_; (with_reducible refine (q8z.calls a1 true _ A4.out).mono ?_); rintro e w' ⟨rfl, ⟨nd, rfl⟩⟩; refine ⟨_, rfl, ?_⟩))
   go_ret
   exact ⟨by first | rfl | (simp; done) | (simp [*]; done), by repeat (first | exact Drawn0.refl _ | apply Drawn0.step)⟩
  ·
   replace c7 := Bool.eq_false_iff.mpr c7
   subst c7
   have H1 : (if a0 < a1 then (some (-1)) else (if a0 > a1 then (some 1) else (some 0))) = some r := by rw [if_neg (show ¬ (false = true) by decide)] at H; exact H
   clear H
   have H := H1
   clear H1
   by_cases c8 : a0 < a1
   ·
    rw [if_pos c8] at H
    have c8b0 : decide (a0 < a1) = true := decide_eq_true c8
    clear c8
    obtain rfl := Option.some.inj H
    go_enter Try.func65, Try.ntmps65
    go_wp2_with (first | ((with_reducible refine gate_callee (f := 77) rfl ?_); refine goesL_ (some 8) rfl rfl Try.func77 (by kernel_rfl) rfl #[.int .u32 a0] rfl (by (try simp only [List.map_toArray, List.map_cons, List.map_nil]); first | done | rfl | (simp only [List.length_drop, List.length_take]; rfl)) ?_; (with_reducible refine (q8z.calls a0 false _ A3.out).mono ?_); rintro e w' ⟨rfl, ⟨nd, rfl⟩⟩; refine ⟨_, rfl, ?_⟩) | ((with_reducible refine gate_callee (f := 77) rfl ?_); refine goesL_ (some 10) rfl rfl Try.func77 (by kernel_rfl) rfl #[.int .u32 a1] rfl (by (try simp only [List.map_toArray, List.map_cons, List.map_nil]); first | done | rfl | (simp only [List.length_drop, List.length_take]; rfl)) ?_; (with_reducible refine (q8z.calls a1 false _ A4.out).mono ?_); rintro e w' ⟨rfl, ⟨nd, rfl⟩⟩; refine ⟨_, rfl, ?_⟩))
    go_ret
    exact ⟨by first | rfl | (simp; done) | (simp [*]; done), by repeat (first | exact Drawn0.refl _ | apply Drawn0.step)⟩
   ·
    rw [if_neg c8] at H
    have c8b0 : decide (a0 < a1) = false := decide_eq_false c8
    clear c8
    by_cases c9 : a0 > a1
    ·
     rw [if_pos c9] at H
     have c9b0 : decide (a1 < a0) = true := decide_eq_true c9
     clear c9
     obtain rfl := Option.some.inj H
     go_enter Try.func65, Try.ntmps65
     go_wp2_with (first | ((with_reducible refine gate_callee (f := 77) rfl ?_); refine goesL_ (some 8) rfl rfl Try.func77 (by kernel_rfl) rfl #[.int .u32 a0] rfl (by (try simp only [List.map_toArray, List.map_cons, List.map_nil]); first | done | rfl | (simp only [List.length_drop, List.length_take]; rfl)) ?_; (with_reducible refine (q8z.calls a0 false _ A3.out).mono ?_); rintro e w' ⟨rfl, ⟨nd, rfl⟩⟩; refine ⟨_, rfl, ?_⟩) | ((with_reducible refine gate_callee (f := 77) rfl ?_); refine goesL_ (some 10) rfl rfl Try.func77 (by kernel_rfl) rfl #[.int .u32 a1] rfl (by (try simp only [List.map_toArray, List.map_cons, List.map_nil]); first | done | rfl | (simp only [List.length_drop, List.length_take]; rfl)) ?_; (with_reducible refine (q8z.calls a1 false _ A4.out).mono ?_); rintro e w' ⟨rfl, ⟨nd, rfl⟩⟩; refine ⟨_, rfl, ?_⟩))
     go_ret
     exact ⟨by first | rfl | (simp; done) | (simp [*]; done), by repeat (first | exact Drawn0.refl _ | apply Drawn0.step)⟩
    ·
     rw [if_neg c9] at H
     have c9b0 : decide (a1 < a0) = false := decide_eq_false c9
     clear c9
     obtain rfl := Option.some.inj H
     go_enter Try.func65, Try.ntmps65
     go_wp2_with (first | ((with_reducible refine gate_callee (f := 77) rfl ?_); refine goesL_ (some 8) rfl rfl Try.func77 (by kernel_rfl) rfl #[.int .u32 a0] rfl (by (try simp only [List.map_toArray, List.map_cons, List.map_nil]); first | done | rfl | (simp only [List.length_drop, List.length_take]; rfl)) ?_; (with_reducible refine (q8z.calls a0 false _ A3.out).mono ?_); rintro e w' ⟨rfl, ⟨nd, rfl⟩⟩; refine ⟨_, rfl, ?_⟩) | ((with_reducible refine gate_callee (f := 77) rfl ?_); refine goesL_ (some 10) rfl rfl Try.func77 (by kernel_rfl) rfl #[.int .u32 a1] rfl (by (try simp only [List.map_toArray, List.map_cons, List.map_nil]); first | done | rfl | (simp only [List.length_drop, List.length_take]; rfl)) ?_; (with_reducible refine (q8z.calls a1 false _ A4.out).mono ?_); rintro e w' ⟨rfl, ⟨nd, rfl⟩⟩; refine ⟨_, rfl, ?_⟩))
     go_ret
     exact ⟨by first | rfl | (simp; done) | (simp [*]; done), by repeat (first | exact Drawn0.refl _ | apply Drawn0.step)⟩

/-! ### cmp_isNaN_int: function 78 -/
def q10z.f (a0 : Int) : Option (Bool) := some (a0 != a0)
set_option maxHeartbeats 8000000 in
set_option maxRecDepth 100000 in
theorem q10z.calls (a0 : Int) (r : Bool) (w : World) (h : q10z.f a0 = some r) :
  Calls Try.prog 78 #[.int .i64 a0] w fun e w' => e = .returned (.bool r) ∧ Drawn0 w w' := by
 have H : (some (a0 != a0)) = some r := h
 clear h
 obtain rfl := Option.some.inj H
 go_enter Try.func78, Try.ntmps78
 go_wp2
 go_ret
 exact ⟨by first | rfl | (simp; done) | (simp [*]; done), by repeat (first | exact Drawn0.refl _ | apply Drawn0.step)⟩

end Go.Proofs.Ythekledcoeeheaa.P
