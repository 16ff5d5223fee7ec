/-
  Proved: for every input the law PlaneLaws answers true, and each argument reads behind the call as it read before.
  Conditions: none beside the row's own.
-/
import Derived.Deep.Slices
import Derived.Test.YtdkbfcogmlghfaaRows
import Derived.WalkKit
import Derived.ProofKit
import Derived.OpenShut
import Derived.ShutString
import Derived.ChangeOld
import Derived.Below
import Derived.SizedLaws
import Derived.Test.YtdkbfcogmlghfaaCPlaneLaws0
import Derived.Test.YtdkbfcogmlghfaaCPlaneLaws1
import Derived.Test.YtdkbfcogmlghfaaCPlaneLaws2
namespace Go.Proofs.Ytdkbfcogmlghfaa.P
open Go.RowKit Go.Proofs.YtdkbfcogmlghfaaW.PrintWords Go.Proofs.YtdkbfcogmlghfaaW.PrintLast Go.Proofs.YtdkbfcogmlghfaaW.PrintMore
attribute [local go_sem] max2_int min2_int max_two min_two max_three min_three max_four min_four
set_option linter.unusedVariables false
set_option linter.unusedSimpArgs false

attribute [local go_sem high] eqA24
/-! ### dragomanlaw02_PlaneLaws: function 6 -/
mutual
def q5z.j0 : Nat → Bool → Bool → Int → Int → Int → Int → Int → Int → Int → Int → Option (Bool)
 | 0, _, _, _, _, _, _, _, _, _, _ => none
 | k + 1, x8, x40, x2000, x2001, x3000, x3001, x4000, x4001, x9000, x9001 => if x40 = true then (some false) else ((plane_Meet.f x2000 x2001 x2000 x2001).bind fun bt13 => (if bt13.2.2 = true then (if (!(bt13.1 == x2000) || (!(bt13.2.1 == x2001))) = true then (q5z.j1 k x8 true x2000 x2001 x3000 x3001 x4000 x4001 x9000 x9001) else ((plane_In.f x2000 x2001 x2000).bind fun t17 => (q5z.j1 k x8 (bt13.2.2 != t17) x2000 x2001 x3000 x3001 x4000 x4001 x9000 x9001))) else ((plane_In.f x2000 x2001 x2000).bind fun t18 => (q5z.j1 k x8 (bt13.2.2 != t18) x2000 x2001 x3000 x3001 x4000 x4001 x9000 x9001))))
def q5z.j1 : Nat → Bool → Bool → Int → Int → Int → Int → Int → Int → Int → Int → Option (Bool)
 | 0, _, _, _, _, _, _, _, _, _, _ => none
 | k + 1, x8, x60, x2000, x2001, x3000, x3001, x4000, x4001, x9000, x9001 => if x60 = true then (some false) else ((plane_Meet.f x3000 x3001 x4000 x4001).bind fun bt19 => ((plane_Meet.f x9000 x9001 x4000 x4001).bind fun bt23 => ((plane_Meet.f x2000 x2001 bt19.1 bt19.2.1).bind fun bt27 => (if bt23.2.2 = true then (if bt27.2.2 = true then (if (x8 == bt19.2.2) = true then (if x8 = true then (some (bt23.1 == bt27.1 && (bt23.2.1 == bt27.2.1))) else (some true)) else (some false)) else (if (x8 == false) = true then (if x8 = true then (some (bt23.1 == bt27.1 && (bt23.2.1 == bt27.2.1))) else (some true)) else (some false))) else (if bt27.2.2 = true then (if (false == bt19.2.2) = true then (some true) else (some false)) else (if (false == false) = true then (some true) else (some false)))))))
end
def q5z.f (k : Nat) (a0_0 : Int) (a0_1 : Int) (a1_0 : Int) (a1_1 : Int) (a2_0 : Int) (a2_1 : Int) : Option (Bool) := (q4z.f k).bind fun t4 => (if t4 = true then ((plane_Meet.f a0_0 a0_1 a1_0 a1_1).bind fun bt5 => ((plane_Meet.f a1_0 a1_1 a0_0 a0_1).bind fun bt9 => (if (!(bt5.1 == bt9.1) || (!(bt5.2.1 == bt9.2.1))) = true then (q5z.j0 k bt5.2.2 true a0_0 a0_1 a1_0 a1_1 a2_0 a2_1 bt5.1 bt5.2.1) else (q5z.j0 k bt5.2.2 (bt5.2.2 != bt9.2.2) a0_0 a0_1 a1_0 a1_1 a2_0 a2_1 bt5.1 bt5.2.1)))) else (some false))
theorem q5z.mono_l : ∀ k, (∀ y0 y1 y2 y3 y4 y5 y6 y7 y8 y9, LeO (q5z.j0 k y0 y1 y2 y3 y4 y5 y6 y7 y8 y9) (q5z.j0 (k + 1) y0 y1 y2 y3 y4 y5 y6 y7 y8 y9)) ∧ (∀ y0 y1 y2 y3 y4 y5 y6 y7 y8 y9, LeO (q5z.j1 k y0 y1 y2 y3 y4 y5 y6 y7 y8 y9) (q5z.j1 (k + 1) y0 y1 y2 y3 y4 y5 y6 y7 y8 y9))
 | 0 => ⟨fun _ _ _ _ _ _ _ _ _ _ r h => by simp [q5z.j0] at h, fun _ _ _ _ _ _ _ _ _ _ r h => by simp [q5z.j1] at h⟩
 | k + 1 => by
  obtain ⟨ih0, ih1⟩ := q5z.mono_l k
  refine ⟨?_, ?_⟩
  ·
   intro y0 y1 y2 y3 y4 y5 y6 y7 y8 y9
   unfold q5z.j0
   repeat' first
   | (with_reducible exact ih0 _ _ _ _ _ _ _ _ _ _)
   | (with_reducible exact ih1 _ _ _ _ _ _ _ _ _ _)
   | (with_reducible exact q4z.mono _)
   | (with_reducible exact LeO.refl _)
   | (with_reducible exact LeO.none _)
   | (with_reducible refine LeO.ite ?_ ?_)
   | (with_reducible refine LeO.bind ?_ (fun _ => ?_))
   | exact ih0 _ _ _ _ _ _ _ _ _ _
   | exact ih1 _ _ _ _ _ _ _ _ _ _
   | exact q4z.mono _
   | exact LeO.none _
   | refine LeO.ite ?_ ?_
   | refine LeO.bind ?_ (fun _ => ?_)
  ·
   intro y0 y1 y2 y3 y4 y5 y6 y7 y8 y9
   unfold q5z.j1
   repeat' first
   | (with_reducible exact ih0 _ _ _ _ _ _ _ _ _ _)
   | (with_reducible exact ih1 _ _ _ _ _ _ _ _ _ _)
   | (with_reducible exact q4z.mono _)
   | (with_reducible exact LeO.refl _)
   | (with_reducible exact LeO.none _)
   | (with_reducible refine LeO.ite ?_ ?_)
   | (with_reducible refine LeO.bind ?_ (fun _ => ?_))
   | exact ih0 _ _ _ _ _ _ _ _ _ _
   | exact ih1 _ _ _ _ _ _ _ _ _ _
   | exact q4z.mono _
   | exact LeO.none _
   | refine LeO.ite ?_ ?_
   | refine LeO.bind ?_ (fun _ => ?_)
theorem q5z.mono : ∀ a0 a1 a2 a3 a4 a5 k, LeO (q5z.f k a0 a1 a2 a3 a4 a5) (q5z.f (k + 1) a0 a1 a2 a3 a4 a5) := by
 intro a0 a1 a2 a3 a4 a5 k
 obtain ⟨ih0, ih1⟩ := q5z.mono_l k
 unfold q5z.f
 repeat' first
   | (with_reducible exact ih0 _ _ _ _ _ _ _ _ _ _)
   | (with_reducible exact ih1 _ _ _ _ _ _ _ _ _ _)
   | (with_reducible exact q4z.mono _)
   | (with_reducible exact LeO.refl _)
   | (with_reducible exact LeO.none _)
   | (with_reducible refine LeO.ite ?_ ?_)
   | (with_reducible refine LeO.bind ?_ (fun _ => ?_))
   | exact ih0 _ _ _ _ _ _ _ _ _ _
   | exact ih1 _ _ _ _ _ _ _ _ _ _
   | exact q4z.mono _
   | exact LeO.none _
   | refine LeO.ite ?_ ?_
   | refine LeO.bind ?_ (fun _ => ?_)
set_option maxHeartbeats 8000000 in
set_option maxRecDepth 100000 in
theorem q5z.calls (k : Nat) (a0_0 : Int) (a0_1 : Int) (a1_0 : Int) (a1_1 : Int) (a2_0 : Int) (a2_1 : Int) (r : Bool) (w : World) (h : q5z.f k a0_0 a0_1 a1_0 a1_1 a2_0 a2_1 = some r) :
  Calls Try.prog 6 #[.agg #[.int .u32 a0_0, .int .u32 a0_1], .agg #[.int .u32 a1_0, .int .u32 a1_1], .agg #[.int .u32 a2_0, .int .u32 a2_1]] w fun e w' => e = .returned (.bool r) ∧ Below w.heap.size w w' := by
 have hu24 := Try.underlying24
 have HB := Aside0.mk (Below.refl w.heap.size w)
 have H : ((q4z.f k).bind fun t4 => (if t4 = true then ((plane_Meet.f a0_0 a0_1 a1_0 a1_1).bind fun bt5 => ((plane_Meet.f a1_0 a1_1 a0_0 a0_1).bind fun bt9 => (if (!(bt5.1 == bt9.1) || (!(bt5.2.1 == bt9.2.1))) = true then (q5z.j0 k bt5.2.2 true a0_0 a0_1 a1_0 a1_1 a2_0 a2_1 bt5.1 bt5.2.1) else (q5z.j0 k bt5.2.2 (bt5.2.2 != bt9.2.2) a0_0 a0_1 a1_0 a1_1 a2_0 a2_1 bt5.1 bt5.2.1)))) else (some false))) = some r := h
 clear h
 replace H := Option.bind_eq_some_iff.mp H
 obtain ⟨t4, A40, H⟩ := H
 replace H : (if t4 = true then ((plane_Meet.f a0_0 a0_1 a1_0 a1_1).bind fun bt5 => ((plane_Meet.f a1_0 a1_1 a0_0 a0_1).bind fun bt9 => (if (!(bt5.1 == bt9.1) || (!(bt5.2.1 == bt9.2.1))) = true then (q5z.j0 k bt5.2.2 true a0_0 a0_1 a1_0 a1_1 a2_0 a2_1 bt5.1 bt5.2.1) else (q5z.j0 k bt5.2.2 (bt5.2.2 != bt9.2.2) a0_0 a0_1 a1_0 a1_1 a2_0 a2_1 bt5.1 bt5.2.1)))) else (some false)) = some r := H
 have A4 := Aside0.mk A40
 clear A40
 by_cases c5 : t4 = true
 ·
  subst c5
  have H1 : ((plane_Meet.f a0_0 a0_1 a1_0 a1_1).bind fun bt5 => ((plane_Meet.f a1_0 a1_1 a0_0 a0_1).bind fun bt9 => (if (!(bt5.1 == bt9.1) || (!(bt5.2.1 == bt9.2.1))) = true then (q5z.j0 k bt5.2.2 true a0_0 a0_1 a1_0 a1_1 a2_0 a2_1 bt5.1 bt5.2.1) else (q5z.j0 k bt5.2.2 (bt5.2.2 != bt9.2.2) a0_0 a0_1 a1_0 a1_1 a2_0 a2_1 bt5.1 bt5.2.1)))) = some r := by rw [if_pos rfl] at H; exact H
  clear H
  have H := H1
  clear H1
  replace H := Option.bind_eq_some_iff.mp H
  obtain ⟨⟨t5, t6, t7⟩, A60, H⟩ := H
  replace H : ((plane_Meet.f a1_0 a1_1 a0_0 a0_1).bind fun bt9 => (if (!(t5 == bt9.1) || (!(t6 == bt9.2.1))) = true then (q5z.j0 k t7 true a0_0 a0_1 a1_0 a1_1 a2_0 a2_1 t5 t6) else (q5z.j0 k t7 (t7 != bt9.2.2) a0_0 a0_1 a1_0 a1_1 a2_0 a2_1 t5 t6))) = some r := H
  have A6 := Aside0.mk A60
  clear A60
  replace H := Option.bind_eq_some_iff.mp H
  obtain ⟨⟨t9, t10, t11⟩, A70, H⟩ := H
  replace H : (if (!(t5 == t9) || (!(t6 == t10))) = true then (q5z.j0 k t7 true a0_0 a0_1 a1_0 a1_1 a2_0 a2_1 t5 t6) else (q5z.j0 k t7 (t7 != t11) a0_0 a0_1 a1_0 a1_1 a2_0 a2_1 t5 t6)) = some r := H
  have A7 := Aside0.mk A70
  clear A70
  have HC8 := Aside0.mk H
  clear H
  go_enter Try.func6, Try.ntmps6
  go_upto_region 5 with (first | ((with_reducible refine gate_dst (N := 3) rfl ?_); refine box_event ?hg (N := 3) ?hd (cs := #[.int .u32 a0_0, .int .u32 a0_1]) (t := 24) ?hr ?_; (case hd => rfl); (case hg => rfl); (case hr => first | (go_simp; done) | (go_simp; rfl)); intro gb1 hg w9 hbox hb; have n0_ := Aside0.mk (below_step (by repeat (first | (with_reducible first | exact HB.out | apply below_alloc | apply pw_below_drewN | apply below_drew1) | exact HB.out)) hb); have n1_ := Aside0.mk (hbox); have n2_ := Aside0.mk ((by rw [hg]; exact (below_size (by repeat (first | (with_reducible first | exact HB.out | apply below_alloc | apply pw_below_drewN | apply below_drew1) | exact HB.out))) : w.heap.size ≤ gb1)); have n3_ := Aside0.mk ((by rw [hg]; exact (below_size (by repeat (first | (with_reducible first | exact HB.out | apply below_alloc | apply pw_below_drewN | apply below_drew1) | exact HB.out))) : w.heap.size ≤ gb1)); clear HB; have HB := n0_; have BK1 := n1_; have GW1 := n2_; have GE1 := n3_; clear n0_ n1_ n2_ n3_; clear hb hbox hg) | ((with_reducible refine gate_dst (N := 4) rfl ?_); refine box_event ?hg (N := 4) ?hd (cs := #[.int .u32 a1_0, .int .u32 a1_1]) (t := 24) ?hr ?_; (case hd => rfl); (case hg => rfl); (case hr => first | (go_simp; done) | (go_simp; rfl)); intro gb2 hg w10 hbox hb; have n0_ := Aside0.mk (blk_below (g := gb1) (o := .cells #[.int .u32 a0_0, .int .u32 a0_1] 24 (0, 0)) (by (with_reducible repeat (first | refine blk_drewN ?_ _ | refine blk_drew ?_ | refine blk_alloc ?_ _)); exact BK1.out) hb); have n1_ := Aside0.mk (below_step (by repeat (first | (with_reducible first | exact HB.out | apply below_alloc | apply pw_below_drewN | apply below_drew1 | refine below_set ?_ GE1.out) | exact HB.out)) hb); have n2_ := Aside0.mk (hbox); have n3_ := Aside0.mk ((by rw [hg]; exact (below_size (by repeat (first | (with_reducible first | exact HB.out | apply below_alloc | apply pw_below_drewN | apply below_drew1 | refine below_set ?_ GE1.out) | exact HB.out))) : w.heap.size ≤ gb2)); have n4_ := Aside0.mk ((by rw [hg]; exact (below_size (by repeat (first | (with_reducible first | exact HB.out | apply below_alloc | apply pw_below_drewN | apply below_drew1 | refine below_set ?_ GE1.out) | exact HB.out))) : w.heap.size ≤ gb2)); have n5_ := Aside0.mk ((by rw [hg]; exact Nat.ne_of_lt (blk_lt (g := gb1) (o := .cells #[.int .u32 a0_0, .int .u32 a0_1] 24 (0, 0)) (by (with_reducible repeat (first | refine blk_drewN ?_ _ | refine blk_drew ?_ | refine blk_alloc ?_ _)); exact BK1.out)) : gb1 ≠ gb2)); have n6_ := Aside0.mk ((by rw [hg]; exact Nat.ne_of_gt (blk_lt (g := gb1) (o := .cells #[.int .u32 a0_0, .int .u32 a0_1] 24 (0, 0)) (by (with_reducible repeat (first | refine blk_drewN ?_ _ | refine blk_drew ?_ | refine blk_alloc ?_ _)); exact BK1.out)) : gb2 ≠ gb1)); clear BK1; clear HB; have BK1 := n0_; have HB := n1_; have BK2 := n2_; have GW2 := n3_; have GE2 := n4_; have NB1_2 := n5_; have NB2_1 := n6_; clear n0_ n1_ n2_ n3_ n4_ n5_ n6_; clear hb hbox hg) | ((with_reducible refine gate_dst (N := 5) rfl ?_); refine box_event ?hg (N := 5) ?hd (cs := #[.int .u32 a2_0, .int .u32 a2_1]) (t := 24) ?hr ?_; (case hd => rfl); (case hg => rfl); (case hr => first | (go_simp; done) | (go_simp; rfl)); intro gb3 hg w11 hbox hb; have n0_ := Aside0.mk (blk_below (g := gb1) (o := .cells #[.int .u32 a0_0, .int .u32 a0_1] 24 (0, 0)) (by (with_reducible repeat (first | refine blk_drewN ?_ _ | refine blk_drew ?_ | refine blk_alloc ?_ _)); exact BK1.out) hb); have n1_ := Aside0.mk (blk_below (g := gb2) (o := .cells #[.int .u32 a1_0, .int .u32 a1_1] 24 (0, 0)) (by (with_reducible repeat (first | refine blk_drewN ?_ _ | refine blk_drew ?_ | refine blk_alloc ?_ _)); exact BK2.out) hb); have n2_ := Aside0.mk (below_step (by repeat (first | (with_reducible first | exact HB.out | apply below_alloc | apply pw_below_drewN | apply below_drew1 | refine below_set ?_ GE1.out | refine below_set ?_ GE2.out) | exact HB.out)) hb); have n3_ := Aside0.mk (hbox); have n4_ := Aside0.mk ((by rw [hg]; exact (below_size (by repeat (first | (with_reducible first | exact HB.out | apply below_alloc | apply pw_below_drewN | apply below_drew1 | refine below_set ?_ GE1.out | refine below_set ?_ GE2.out) | exact HB.out))) : w.heap.size ≤ gb3)); have n5_ := Aside0.mk ((by rw [hg]; exact (below_size (by repeat (first | (with_reducible first | exact HB.out | apply below_alloc | apply pw_below_drewN | apply below_drew1 | refine below_set ?_ GE1.out | refine below_set ?_ GE2.out) | exact HB.out))) : w.heap.size ≤ gb3)); have n6_ := Aside0.mk ((by rw [hg]; exact Nat.ne_of_lt (blk_lt (g := gb1) (o := .cells #[.int .u32 a0_0, .int .u32 a0_1] 24 (0, 0)) (by (with_reducible repeat (first | refine blk_drewN ?_ _ | refine blk_drew ?_ | refine blk_alloc ?_ _)); exact BK1.out)) : gb1 ≠ gb3)); have n7_ := Aside0.mk ((by rw [hg]; exact Nat.ne_of_gt (blk_lt (g := gb1) (o := .cells #[.int .u32 a0_0, .int .u32 a0_1] 24 (0, 0)) (by (with_reducible repeat (first | refine blk_drewN ?_ _ | refine blk_drew ?_ | refine blk_alloc ?_ _)); exact BK1.out)) : gb3 ≠ gb1)); have n8_ := Aside0.mk ((by rw [hg]; exact Nat.ne_of_lt (blk_lt (g := gb2) (o := .cells #[.int .u32 a1_0, .int .u32 a1_1] 24 (0, 0)) (by (with_reducible repeat (first | refine blk_drewN ?_ _ | refine blk_drew ?_ | refine blk_alloc ?_ _)); exact BK2.out)) : gb2 ≠ gb3)); have n9_ := Aside0.mk ((by rw [hg]; exact Nat.ne_of_gt (blk_lt (g := gb2) (o := .cells #[.int .u32 a1_0, .int .u32 a1_1] 24 (0, 0)) (by (with_reducible repeat (first | refine blk_drewN ?_ _ | refine blk_drew ?_ | refine blk_alloc ?_ _)); exact BK2.out)) : gb3 ≠ gb2)); clear BK1; clear BK2; clear HB; have BK1 := n0_; have BK2 := n1_; have HB := n2_; have BK3 := n3_; have GW3 := n4_; have GE3 := n5_; have NB1_3 := n6_; have NB3_1 := n7_; have NB2_3 := n8_; have NB3_2 := n9_; clear n0_ n1_ n2_ n3_ n4_ n5_ n6_ n7_ n8_ n9_; clear hb hbox hg) | ((with_reducible refine gate_callee (f := 8) rfl ?_); refine goesL_ (some 19) rfl rfl Try.func8 (by kernel_rfl) rfl #[] rfl (by (try simp only [List.map_toArray, List.map_cons, List.map_nil]); first | done | rfl | (simp only [List.length_drop, List.length_take]; rfl)) ?_; (with_reducible refine (q4z.calls k  true _ A4.out).mono ?_); rintro e w12 ⟨rfl, hb⟩; refine ⟨_, rfl, ?_⟩; have n0_ := Aside0.mk (blk_below (g := gb1) (o := .cells #[.int .u32 a0_0, .int .u32 a0_1] 24 (0, 0)) (by (with_reducible repeat (first | refine blk_drewN ?_ _ | refine blk_drew ?_ | refine blk_alloc ?_ _)); exact BK1.out) hb); have n1_ := Aside0.mk (blk_below (g := gb2) (o := .cells #[.int .u32 a1_0, .int .u32 a1_1] 24 (0, 0)) (by (with_reducible repeat (first | refine blk_drewN ?_ _ | refine blk_drew ?_ | refine blk_alloc ?_ _)); exact BK2.out) hb); have n2_ := Aside0.mk (blk_below (g := gb3) (o := .cells #[.int .u32 a2_0, .int .u32 a2_1] 24 (0, 0)) (by (with_reducible repeat (first | refine blk_drewN ?_ _ | refine blk_drew ?_ | refine blk_alloc ?_ _)); exact BK3.out) hb); have n3_ := Aside0.mk (below_step (by repeat (first | (with_reducible first | exact HB.out | apply below_alloc | apply pw_below_drewN | apply below_drew1 | refine below_set ?_ GE1.out | refine below_set ?_ GE2.out | refine below_set ?_ GE3.out) | exact HB.out)) hb); clear BK1; clear BK2; clear BK3; clear HB; have BK1 := n0_; have BK2 := n1_; have BK3 := n2_; have HB := n3_; clear n0_ n1_ n2_ n3_; (try clear hb); (try clear hb2); (try clear hk); (try clear hi); have hnb13 := NB1_2.out; have hnc13 := NB2_1.out; have hnb14 := NB1_3.out; have hnc14 := NB3_1.out; have hcz15_0 : w12.cell? ⟨gb1, 0, none⟩ = some (.int .u32 a0_0) := (blk_cell BK1.out 0).trans rfl; have hcz15_1 : w12.cell? ⟨gb1, 1, none⟩ = some (.int .u32 a0_1) := (blk_cell BK1.out 1).trans rfl; have hfz15_0 := blk_frozen BK1.out 0; have hfz15_1 := blk_frozen BK1.out 1; have hnb16 := NB2_3.out; have hnc16 := NB3_2.out; have hcz17_0 : w12.cell? ⟨gb2, 0, none⟩ = some (.int .u32 a1_0) := (blk_cell BK2.out 0).trans rfl; have hcz17_1 : w12.cell? ⟨gb2, 1, none⟩ = some (.int .u32 a1_1) := (blk_cell BK2.out 1).trans rfl; have hfz17_0 := blk_frozen BK2.out 0; have hfz17_1 := blk_frozen BK2.out 1) | ((with_reducible refine gate_callee (f := 9) rfl ?_); refine goesL_ (some 24) rfl rfl Try.func9 (by kernel_rfl) rfl #[.agg #[.int .u32 a0_0, .int .u32 a0_1], .agg #[.int .u32 a1_0, .int .u32 a1_1]] rfl (by (try simp only [List.map_toArray, List.map_cons, List.map_nil]); first | done | rfl | (simp only [List.length_drop, List.length_take]; rfl)) ?_; (with_reducible refine (plane_Meet.calls a0_0 a0_1 a1_0 a1_1 t5 t6 t7 _ A6.out).mono ?_); rintro e w18 ⟨rfl, hb⟩; refine ⟨_, rfl, ?_⟩; have n0_ := Aside0.mk (blk_below (g := gb1) (o := .cells #[.int .u32 a0_0, .int .u32 a0_1] 24 (0, 0)) (by (with_reducible repeat (first | refine blk_drewN ?_ _ | refine blk_drew ?_ | refine blk_alloc ?_ _)); exact BK1.out) hb); have n1_ := Aside0.mk (blk_below (g := gb2) (o := .cells #[.int .u32 a1_0, .int .u32 a1_1] 24 (0, 0)) (by (with_reducible repeat (first | refine blk_drewN ?_ _ | refine blk_drew ?_ | refine blk_alloc ?_ _)); exact BK2.out) hb); have n2_ := Aside0.mk (blk_below (g := gb3) (o := .cells #[.int .u32 a2_0, .int .u32 a2_1] 24 (0, 0)) (by (with_reducible repeat (first | refine blk_drewN ?_ _ | refine blk_drew ?_ | refine blk_alloc ?_ _)); exact BK3.out) hb); have n3_ := Aside0.mk (below_step (by repeat (first | (with_reducible first | exact HB.out | apply below_alloc | apply pw_below_drewN | apply below_drew1 | refine below_set ?_ GE1.out | refine below_set ?_ GE2.out | refine below_set ?_ GE3.out) | exact HB.out)) hb); clear BK1; clear BK2; clear BK3; clear HB; have BK1 := n0_; have BK2 := n1_; have BK3 := n2_; have HB := n3_; clear n0_ n1_ n2_ n3_; (try clear hb); (try clear hb2); (try clear hk); (try clear hi)) | ((with_reducible refine gate_dst (N := 7) rfl ?_); refine box_event ?hg (N := 7) ?hd (cs := #[.int .u32 0, .int .u32 0]) (t := 24) ?hr ?_; (case hd => rfl); (case hg => rfl); (case hr => first | (go_simp; done) | (go_simp; rfl)); intro gb8 hg w19 hbox hb; have n0_ := Aside0.mk (blk_below (g := gb1) (o := .cells #[.int .u32 a0_0, .int .u32 a0_1] 24 (0, 0)) (by (with_reducible repeat (first | refine blk_drewN ?_ _ | refine blk_drew ?_ | refine blk_alloc ?_ _)); exact BK1.out) hb); have n1_ := Aside0.mk (blk_below (g := gb2) (o := .cells #[.int .u32 a1_0, .int .u32 a1_1] 24 (0, 0)) (by (with_reducible repeat (first | refine blk_drewN ?_ _ | refine blk_drew ?_ | refine blk_alloc ?_ _)); exact BK2.out) hb); have n2_ := Aside0.mk (blk_below (g := gb3) (o := .cells #[.int .u32 a2_0, .int .u32 a2_1] 24 (0, 0)) (by (with_reducible repeat (first | refine blk_drewN ?_ _ | refine blk_drew ?_ | refine blk_alloc ?_ _)); exact BK3.out) hb); have n3_ := Aside0.mk (below_step (by repeat (first | (with_reducible first | exact HB.out | apply below_alloc | apply pw_below_drewN | apply below_drew1 | refine below_set ?_ GE1.out | refine below_set ?_ GE2.out | refine below_set ?_ GE3.out) | exact HB.out)) hb); have n4_ := Aside0.mk (hbox); have n5_ := Aside0.mk ((by rw [hg]; exact (below_size (by repeat (first | (with_reducible first | exact HB.out | apply below_alloc | apply pw_below_drewN | apply below_drew1 | refine below_set ?_ GE1.out | refine below_set ?_ GE2.out | refine below_set ?_ GE3.out) | exact HB.out))) : w.heap.size ≤ gb8)); have n6_ := Aside0.mk ((by rw [hg]; exact (below_size (by repeat (first | (with_reducible first | exact HB.out | apply below_alloc | apply pw_below_drewN | apply below_drew1 | refine below_set ?_ GE1.out | refine below_set ?_ GE2.out | refine below_set ?_ GE3.out) | exact HB.out))) : w.heap.size ≤ gb8)); have n7_ := Aside0.mk ((by rw [hg]; exact Nat.ne_of_lt (blk_lt (g := gb1) (o := .cells #[.int .u32 a0_0, .int .u32 a0_1] 24 (0, 0)) (by (with_reducible repeat (first | refine blk_drewN ?_ _ | refine blk_drew ?_ | refine blk_alloc ?_ _)); exact BK1.out)) : gb1 ≠ gb8)); have n8_ := Aside0.mk ((by rw [hg]; exact Nat.ne_of_gt (blk_lt (g := gb1) (o := .cells #[.int .u32 a0_0, .int .u32 a0_1] 24 (0, 0)) (by (with_reducible repeat (first | refine blk_drewN ?_ _ | refine blk_drew ?_ | refine blk_alloc ?_ _)); exact BK1.out)) : gb8 ≠ gb1)); have n9_ := Aside0.mk ((by rw [hg]; exact Nat.ne_of_lt (blk_lt (g := gb2) (o := .cells #[.int .u32 a1_0, .int .u32 a1_1] 24 (0, 0)) (by (with_reducible repeat (first | refine blk_drewN ?_ _ | refine blk_drew ?_ | refine blk_alloc ?_ _)); exact BK2.out)) : gb2 ≠ gb8)); have n10_ := Aside0.mk ((by rw [hg]; exact Nat.ne_of_gt (blk_lt (g := gb2) (o := .cells #[.int .u32 a1_0, .int .u32 a1_1] 24 (0, 0)) (by (with_reducible repeat (first | refine blk_drewN ?_ _ | refine blk_drew ?_ | refine blk_alloc ?_ _)); exact BK2.out)) : gb8 ≠ gb2)); have n11_ := Aside0.mk ((by rw [hg]; exact Nat.ne_of_lt (blk_lt (g := gb3) (o := .cells #[.int .u32 a2_0, .int .u32 a2_1] 24 (0, 0)) (by (with_reducible repeat (first | refine blk_drewN ?_ _ | refine blk_drew ?_ | refine blk_alloc ?_ _)); exact BK3.out)) : gb3 ≠ gb8)); have n12_ := Aside0.mk ((by rw [hg]; exact Nat.ne_of_gt (blk_lt (g := gb3) (o := .cells #[.int .u32 a2_0, .int .u32 a2_1] 24 (0, 0)) (by (with_reducible repeat (first | refine blk_drewN ?_ _ | refine blk_drew ?_ | refine blk_alloc ?_ _)); exact BK3.out)) : gb8 ≠ gb3)); clear BK1; clear BK2; clear BK3; clear HB; have BK1 := n0_; have BK2 := n1_; have BK3 := n2_; have HB := n3_; have BK8 := n4_; have GW8 := n5_; have GE8 := n6_; have NB1_8 := n7_; have NB8_1 := n8_; have NB2_8 := n9_; have NB8_2 := n10_; have NB3_8 := n11_; have NB8_3 := n12_; clear n0_ n1_ n2_ n3_ n4_ n5_ n6_ n7_ n8_ n9_ n10_ n11_ n12_; clear hb hbox hg; have hnb20 := NB8_1.out; have hnc20 := NB1_8.out; have hnb21 := NB8_2.out; have hnc21 := NB2_8.out; have hnb22 := NB8_3.out; have hnc22 := NB3_8.out; have hcz23_0 : w19.cell? ⟨gb8, 0, none⟩ = some (.int .u32 0) := (blk_cell BK8.out 0).trans rfl; have hcz23_1 : w19.cell? ⟨gb8, 1, none⟩ = some (.int .u32 0) := (blk_cell BK8.out 1).trans rfl; have hfz23_0 := blk_frozen BK8.out 0; have hfz23_1 := blk_frozen BK8.out 1; have hcz24_0 : w19.cell? ⟨gb2, 0, none⟩ = some (.int .u32 a1_0) := (blk_cell BK2.out 0).trans rfl; have hcz24_1 : w19.cell? ⟨gb2, 1, none⟩ = some (.int .u32 a1_1) := (blk_cell BK2.out 1).trans rfl; have hfz24_0 := blk_frozen BK2.out 0; have hfz24_1 := blk_frozen BK2.out 1; have hcz25_0 : w19.cell? ⟨gb1, 0, none⟩ = some (.int .u32 a0_0) := (blk_cell BK1.out 0).trans rfl; have hcz25_1 : w19.cell? ⟨gb1, 1, none⟩ = some (.int .u32 a0_1) := (blk_cell BK1.out 1).trans rfl; have hfz25_0 := blk_frozen BK1.out 0; have hfz25_1 := blk_frozen BK1.out 1) | ((with_reducible refine gate_callee (f := 9) rfl ?_); refine goesL_ (some 30) rfl rfl Try.func9 (by kernel_rfl) rfl #[.agg #[.int .u32 a1_0, .int .u32 a1_1], .agg #[.int .u32 a0_0, .int .u32 a0_1]] rfl (by (try simp only [List.map_toArray, List.map_cons, List.map_nil]); first | done | rfl | (simp only [List.length_drop, List.length_take]; rfl)) ?_; (with_reducible refine (plane_Meet.calls a1_0 a1_1 a0_0 a0_1 t9 t10 t11 _ A7.out).mono ?_); rintro e w26 ⟨rfl, hb⟩; refine ⟨_, rfl, ?_⟩; have n0_ := Aside0.mk (blk_below (g := gb1) (o := .cells #[.int .u32 a0_0, .int .u32 a0_1] 24 (0, 0)) (by (with_reducible repeat (first | refine blk_drewN ?_ _ | refine blk_drew ?_ | refine blk_alloc ?_ _)); refine blk_far ?_ NB1_8.out _; (with_reducible repeat (first | refine blk_drewN ?_ _ | refine blk_drew ?_ | refine blk_alloc ?_ _)); refine blk_far ?_ NB1_8.out _; (with_reducible repeat (first | refine blk_drewN ?_ _ | refine blk_drew ?_ | refine blk_alloc ?_ _)); exact BK1.out) hb); have n1_ := Aside0.mk (blk_below (g := gb2) (o := .cells #[.int .u32 a1_0, .int .u32 a1_1] 24 (0, 0)) (by (with_reducible repeat (first | refine blk_drewN ?_ _ | refine blk_drew ?_ | refine blk_alloc ?_ _)); refine blk_far ?_ NB2_8.out _; (with_reducible repeat (first | refine blk_drewN ?_ _ | refine blk_drew ?_ | refine blk_alloc ?_ _)); refine blk_far ?_ NB2_8.out _; (with_reducible repeat (first | refine blk_drewN ?_ _ | refine blk_drew ?_ | refine blk_alloc ?_ _)); exact BK2.out) hb); have n2_ := Aside0.mk (blk_below (g := gb3) (o := .cells #[.int .u32 a2_0, .int .u32 a2_1] 24 (0, 0)) (by (with_reducible repeat (first | refine blk_drewN ?_ _ | refine blk_drew ?_ | refine blk_alloc ?_ _)); refine blk_far ?_ NB3_8.out _; (with_reducible repeat (first | refine blk_drewN ?_ _ | refine blk_drew ?_ | refine blk_alloc ?_ _)); refine blk_far ?_ NB3_8.out _; (with_reducible repeat (first | refine blk_drewN ?_ _ | refine blk_drew ?_ | refine blk_alloc ?_ _)); exact BK3.out) hb); have n3_ := Aside0.mk (blk_below (g := gb8) (o := .cells #[.int .u32 t5, .int .u32 t6] 24 (0, 0)) (by (with_reducible repeat (first | refine blk_drewN ?_ _ | refine blk_drew ?_ | refine blk_alloc ?_ _)); refine blk_put (cs := #[.int .u32 t5, .int .u32 0]) ?_ 1 _ rfl; (with_reducible repeat (first | refine blk_drewN ?_ _ | refine blk_drew ?_ | refine blk_alloc ?_ _)); refine blk_put (cs := #[.int .u32 0, .int .u32 0]) ?_ 0 _ rfl; (with_reducible repeat (first | refine blk_drewN ?_ _ | refine blk_drew ?_ | refine blk_alloc ?_ _)); exact BK8.out) hb); have n4_ := Aside0.mk (below_step (by repeat (first | (with_reducible first | exact HB.out | apply below_alloc | apply pw_below_drewN | apply below_drew1 | refine below_set ?_ GE1.out | refine below_set ?_ GE2.out | refine below_set ?_ GE3.out | refine below_set ?_ GE8.out) | exact HB.out)) hb); clear BK1; clear BK2; clear BK3; clear BK8; clear HB; have BK1 := n0_; have BK2 := n1_; have BK3 := n2_; have BK8 := n3_; have HB := n4_; clear n0_ n1_ n2_ n3_ n4_; (try clear hb); (try clear hb2); (try clear hk); (try clear hi)) | ((with_reducible refine gate_dst (N := 9) rfl ?_); refine box_event ?hg (N := 9) ?hd (cs := #[.int .u32 0, .int .u32 0]) (t := 24) ?hr ?_; (case hd => rfl); (case hg => rfl); (case hr => first | (go_simp; done) | (go_simp; rfl)); intro gb12 hg w27 hbox hb; have n0_ := Aside0.mk (blk_below (g := gb1) (o := .cells #[.int .u32 a0_0, .int .u32 a0_1] 24 (0, 0)) (by (with_reducible repeat (first | refine blk_drewN ?_ _ | refine blk_drew ?_ | refine blk_alloc ?_ _)); exact BK1.out) hb); have n1_ := Aside0.mk (blk_below (g := gb2) (o := .cells #[.int .u32 a1_0, .int .u32 a1_1] 24 (0, 0)) (by (with_reducible repeat (first | refine blk_drewN ?_ _ | refine blk_drew ?_ | refine blk_alloc ?_ _)); exact BK2.out) hb); have n2_ := Aside0.mk (blk_below (g := gb3) (o := .cells #[.int .u32 a2_0, .int .u32 a2_1] 24 (0, 0)) (by (with_reducible repeat (first | refine blk_drewN ?_ _ | refine blk_drew ?_ | refine blk_alloc ?_ _)); exact BK3.out) hb); have n3_ := Aside0.mk (blk_below (g := gb8) (o := .cells #[.int .u32 t5, .int .u32 t6] 24 (0, 0)) (by (with_reducible repeat (first | refine blk_drewN ?_ _ | refine blk_drew ?_ | refine blk_alloc ?_ _)); exact BK8.out) hb); have n4_ := Aside0.mk (below_step (by repeat (first | (with_reducible first | exact HB.out | apply below_alloc | apply pw_below_drewN | apply below_drew1 | refine below_set ?_ GE1.out | refine below_set ?_ GE2.out | refine below_set ?_ GE3.out | refine below_set ?_ GE8.out) | exact HB.out)) hb); have n5_ := Aside0.mk (hbox); have n6_ := Aside0.mk ((by rw [hg]; exact (below_size (by repeat (first | (with_reducible first | exact HB.out | apply below_alloc | apply pw_below_drewN | apply below_drew1 | refine below_set ?_ GE1.out | refine below_set ?_ GE2.out | refine below_set ?_ GE3.out | refine below_set ?_ GE8.out) | exact HB.out))) : w.heap.size ≤ gb12)); have n7_ := Aside0.mk ((by rw [hg]; exact (below_size (by repeat (first | (with_reducible first | exact HB.out | apply below_alloc | apply pw_below_drewN | apply below_drew1 | refine below_set ?_ GE1.out | refine below_set ?_ GE2.out | refine below_set ?_ GE3.out | refine below_set ?_ GE8.out) | exact HB.out))) : w.heap.size ≤ gb12)); have n8_ := Aside0.mk ((by rw [hg]; exact Nat.ne_of_lt (blk_lt (g := gb1) (o := .cells #[.int .u32 a0_0, .int .u32 a0_1] 24 (0, 0)) (by (with_reducible repeat (first | refine blk_drewN ?_ _ | refine blk_drew ?_ | refine blk_alloc ?_ _)); exact BK1.out)) : gb1 ≠ gb12)); have n9_ := Aside0.mk ((by rw [hg]; exact Nat.ne_of_gt (blk_lt (g := gb1) (o := .cells #[.int .u32 a0_0, .int .u32 a0_1] 24 (0, 0)) (by (with_reducible repeat (first | refine blk_drewN ?_ _ | refine blk_drew ?_ | refine blk_alloc ?_ _)); exact BK1.out)) : gb12 ≠ gb1)); have n10_ := Aside0.mk ((by rw [hg]; exact Nat.ne_of_lt (blk_lt (g := gb2) (o := .cells #[.int .u32 a1_0, .int .u32 a1_1] 24 (0, 0)) (by (with_reducible repeat (first | refine blk_drewN ?_ _ | refine blk_drew ?_ | refine blk_alloc ?_ _)); exact BK2.out)) : gb2 ≠ gb12)); have n11_ := Aside0.mk ((by rw [hg]; exact Nat.ne_of_gt (blk_lt (g := gb2) (o := .cells #[.int .u32 a1_0, .int .u32 a1_1] 24 (0, 0)) (by (with_reducible repeat (first | refine blk_drewN ?_ _ | refine blk_drew ?_ | refine blk_alloc ?_ _)); exact BK2.out)) : gb12 ≠ gb2)); have n12_ := Aside0.mk ((by rw [hg]; exact Nat.ne_of_lt (blk_lt (g := gb3) (o := .cells #[.int .u32 a2_0, .int .u32 a2_1] 24 (0, 0)) (by (with_reducible repeat (first | refine blk_drewN ?_ _ | refine blk_drew ?_ | refine blk_alloc ?_ _)); exact BK3.out)) : gb3 ≠ gb12)); have n13_ := Aside0.mk ((by rw [hg]; exact Nat.ne_of_gt (blk_lt (g := gb3) (o := .cells #[.int .u32 a2_0, .int .u32 a2_1] 24 (0, 0)) (by (with_reducible repeat (first | refine blk_drewN ?_ _ | refine blk_drew ?_ | refine blk_alloc ?_ _)); exact BK3.out)) : gb12 ≠ gb3)); have n14_ := Aside0.mk ((by rw [hg]; exact Nat.ne_of_lt (blk_lt (g := gb8) (o := .cells #[.int .u32 t5, .int .u32 t6] 24 (0, 0)) (by (with_reducible repeat (first | refine blk_drewN ?_ _ | refine blk_drew ?_ | refine blk_alloc ?_ _)); exact BK8.out)) : gb8 ≠ gb12)); have n15_ := Aside0.mk ((by rw [hg]; exact Nat.ne_of_gt (blk_lt (g := gb8) (o := .cells #[.int .u32 t5, .int .u32 t6] 24 (0, 0)) (by (with_reducible repeat (first | refine blk_drewN ?_ _ | refine blk_drew ?_ | refine blk_alloc ?_ _)); exact BK8.out)) : gb12 ≠ gb8)); clear BK1; clear BK2; clear BK3; clear BK8; clear HB; have BK1 := n0_; have BK2 := n1_; have BK3 := n2_; have BK8 := n3_; have HB := n4_; have BK12 := n5_; have GW12 := n6_; have GE12 := n7_; have NB1_12 := n8_; have NB12_1 := n9_; have NB2_12 := n10_; have NB12_2 := n11_; have NB3_12 := n12_; have NB12_3 := n13_; have NB8_12 := n14_; have NB12_8 := n15_; clear n0_ n1_ n2_ n3_ n4_ n5_ n6_ n7_ n8_ n9_ n10_ n11_ n12_ n13_ n14_ n15_; clear hb hbox hg; have hnb28 := NB12_1.out; have hnc28 := NB1_12.out; have hnb29 := NB12_2.out; have hnc29 := NB2_12.out; have hnb30 := NB12_3.out; have hnc30 := NB3_12.out; have hnb31 := NB12_8.out; have hnc31 := NB8_12.out; have hcz32_0 : w27.cell? ⟨gb12, 0, none⟩ = some (.int .u32 0) := (blk_cell BK12.out 0).trans rfl; have hcz32_1 : w27.cell? ⟨gb12, 1, none⟩ = some (.int .u32 0) := (blk_cell BK12.out 1).trans rfl; have hfz32_0 := blk_frozen BK12.out 0; have hfz32_1 := blk_frozen BK12.out 1))
  (try simp only [Act.put, List.setIfInBounds_toArray, List.set_cons_zero, List.set_cons_succ])
  go_cut [40] (fun v40 wc => ∃ (kq : Nat) (x40_7 : Bool), v40 = .bool x40_7 ∧ Aside0 (q5z.j0 kq t7 x40_7 a0_0 a0_1 a1_0 a1_1 a2_0 a2_1 t5 t6 = some r) ∧ Aside0 (kq ≤ k) ∧ Aside0 (wc.heap[gb1]? = some (.cells #[.int .u32 a0_0, .int .u32 a0_1] 24 (0, 0))) ∧ Aside0 (wc.heap[gb2]? = some (.cells #[.int .u32 a1_0, .int .u32 a1_1] 24 (0, 0))) ∧ Aside0 (wc.heap[gb3]? = some (.cells #[.int .u32 a2_0, .int .u32 a2_1] 24 (0, 0))) ∧ Aside0 (wc.heap[gb8]? = some (.cells #[.int .u32 t5, .int .u32 t6] 24 (0, 0))) ∧ Aside0 (wc.heap[gb12]? = some (.cells #[.int .u32 t9, .int .u32 t10] 24 (0, 0))) ∧ Aside0 (Below w.heap.size w wc))
  case first =>
   have H := HC8.out
   clear HC8
   by_cases c33 : (!(t5 == t9) || (!(t6 == t10))) = true
   ·
    rw [if_pos c33] at H
    have c33b0 : (!(t5 == t9) || (!(t6 == t10))) = true := c33
    clear c33
    (first | rw [c33b0] | (simp only [i64_w, i32_w, IntKind.wrap_u32]; rw [c33b0]) | skip)
    have H' := Aside0.mk H
    clear H
    have hnb34 := NB8_1.out
    have hnc34 := NB1_8.out
    have hnb35 := NB8_2.out
    have hnc35 := NB2_8.out
    have hnb36 := NB8_3.out
    have hnc36 := NB3_8.out
    have hnb37 := NB8_12.out
    have hnc37 := NB12_8.out
    have hcz38_0 : w27.cell? ⟨gb8, 0, none⟩ = some (.int .u32 t5) := (blk_cell BK8.out 0).trans rfl
    have hcz38_1 : w27.cell? ⟨gb8, 1, none⟩ = some (.int .u32 t6) := (blk_cell BK8.out 1).trans rfl
    have hfz38_0 := blk_frozen BK8.out 0
    have hfz38_1 := blk_frozen BK8.out 1
    have hnb39 := NB12_1.out
    have hnc39 := NB1_12.out
    have hnb40 := NB12_2.out
    have hnc40 := NB2_12.out
    have hnb41 := NB12_3.out
    have hnc41 := NB3_12.out
    have hcz42_0 : w27.cell? ⟨gb12, 0, none⟩ = some (.int .u32 0) := (blk_cell BK12.out 0).trans rfl
    have hcz42_1 : w27.cell? ⟨gb12, 1, none⟩ = some (.int .u32 0) := (blk_cell BK12.out 1).trans rfl
    have hfz42_0 := blk_frozen BK12.out 0
    have hfz42_1 := blk_frozen BK12.out 1
    go_wp2
    go_meet
    case rel => exact ⟨_, (true), (by first | rfl | (simp; done) | (simp [*]; done)), H', ⟨by first | omega | exact Nat.le_refl _⟩, ⟨by (with_reducible repeat (first | refine blk_drewN ?_ _ | refine blk_drew ?_ | refine blk_alloc ?_ _)); refine blk_far ?_ NB1_12.out _; (with_reducible repeat (first | refine blk_drewN ?_ _ | refine blk_drew ?_ | refine blk_alloc ?_ _)); refine blk_far ?_ NB1_12.out _; (with_reducible repeat (first | refine blk_drewN ?_ _ | refine blk_drew ?_ | refine blk_alloc ?_ _)); exact BK1.out⟩, ⟨by (with_reducible repeat (first | refine blk_drewN ?_ _ | refine blk_drew ?_ | refine blk_alloc ?_ _)); refine blk_far ?_ NB2_12.out _; (with_reducible repeat (first | refine blk_drewN ?_ _ | refine blk_drew ?_ | refine blk_alloc ?_ _)); refine blk_far ?_ NB2_12.out _; (with_reducible repeat (first | refine blk_drewN ?_ _ | refine blk_drew ?_ | refine blk_alloc ?_ _)); exact BK2.out⟩, ⟨by (with_reducible repeat (first | refine blk_drewN ?_ _ | refine blk_drew ?_ | refine blk_alloc ?_ _)); refine blk_far ?_ NB3_12.out _; (with_reducible repeat (first | refine blk_drewN ?_ _ | refine blk_drew ?_ | refine blk_alloc ?_ _)); refine blk_far ?_ NB3_12.out _; (with_reducible repeat (first | refine blk_drewN ?_ _ | refine blk_drew ?_ | refine blk_alloc ?_ _)); exact BK3.out⟩, ⟨by (with_reducible repeat (first | refine blk_drewN ?_ _ | refine blk_drew ?_ | refine blk_alloc ?_ _)); refine blk_far ?_ NB8_12.out _; (with_reducible repeat (first | refine blk_drewN ?_ _ | refine blk_drew ?_ | refine blk_alloc ?_ _)); refine blk_far ?_ NB8_12.out _; (with_reducible repeat (first | refine blk_drewN ?_ _ | refine blk_drew ?_ | refine blk_alloc ?_ _)); exact BK8.out⟩, ⟨by (with_reducible repeat (first | refine blk_drewN ?_ _ | refine blk_drew ?_ | refine blk_alloc ?_ _)); refine blk_put (cs := #[.int .u32 t9, .int .u32 0]) ?_ 1 _ rfl; (with_reducible repeat (first | refine blk_drewN ?_ _ | refine blk_drew ?_ | refine blk_alloc ?_ _)); refine blk_put (cs := #[.int .u32 0, .int .u32 0]) ?_ 0 _ rfl; (with_reducible repeat (first | refine blk_drewN ?_ _ | refine blk_drew ?_ | refine blk_alloc ?_ _)); exact BK12.out⟩, ⟨by repeat (first | (with_reducible first | exact HB.out | apply below_alloc | apply pw_below_drewN | apply below_drew1 | refine below_set ?_ GE1.out | refine below_set ?_ GE2.out | refine below_set ?_ GE3.out | refine below_set ?_ GE8.out | refine below_set ?_ GE12.out) | exact HB.out)⟩⟩
   ·
    rw [if_neg c33] at H
    have c33b0 : (!(t5 == t9) || (!(t6 == t10))) = false := by simpa using c33
    clear c33
    (first | rw [c33b0] | (simp only [i64_w, i32_w, IntKind.wrap_u32]; rw [c33b0]) | skip)
    have H' := Aside0.mk H
    clear H
    have hnb43 := NB8_1.out
    have hnc43 := NB1_8.out
    have hnb44 := NB8_2.out
    have hnc44 := NB2_8.out
    have hnb45 := NB8_3.out
    have hnc45 := NB3_8.out
    have hnb46 := NB8_12.out
    have hnc46 := NB12_8.out
    have hcz47_0 : w27.cell? ⟨gb8, 0, none⟩ = some (.int .u32 t5) := (blk_cell BK8.out 0).trans rfl
    have hcz47_1 : w27.cell? ⟨gb8, 1, none⟩ = some (.int .u32 t6) := (blk_cell BK8.out 1).trans rfl
    have hfz47_0 := blk_frozen BK8.out 0
    have hfz47_1 := blk_frozen BK8.out 1
    have hnb48 := NB12_1.out
    have hnc48 := NB1_12.out
    have hnb49 := NB12_2.out
    have hnc49 := NB2_12.out
    have hnb50 := NB12_3.out
    have hnc50 := NB3_12.out
    have hcz51_0 : w27.cell? ⟨gb12, 0, none⟩ = some (.int .u32 0) := (blk_cell BK12.out 0).trans rfl
    have hcz51_1 : w27.cell? ⟨gb12, 1, none⟩ = some (.int .u32 0) := (blk_cell BK12.out 1).trans rfl
    have hfz51_0 := blk_frozen BK12.out 0
    have hfz51_1 := blk_frozen BK12.out 1
    go_wp2
    go_meet
    case rel => exact ⟨_, ((t7 != t11)), (by first | rfl | (simp; done) | (simp [*]; done)), H', ⟨by first | omega | exact Nat.le_refl _⟩, ⟨by (with_reducible repeat (first | refine blk_drewN ?_ _ | refine blk_drew ?_ | refine blk_alloc ?_ _)); refine blk_far ?_ NB1_12.out _; (with_reducible repeat (first | refine blk_drewN ?_ _ | refine blk_drew ?_ | refine blk_alloc ?_ _)); refine blk_far ?_ NB1_12.out _; (with_reducible repeat (first | refine blk_drewN ?_ _ | refine blk_drew ?_ | refine blk_alloc ?_ _)); exact BK1.out⟩, ⟨by (with_reducible repeat (first | refine blk_drewN ?_ _ | refine blk_drew ?_ | refine blk_alloc ?_ _)); refine blk_far ?_ NB2_12.out _; (with_reducible repeat (first | refine blk_drewN ?_ _ | refine blk_drew ?_ | refine blk_alloc ?_ _)); refine blk_far ?_ NB2_12.out _; (with_reducible repeat (first | refine blk_drewN ?_ _ | refine blk_drew ?_ | refine blk_alloc ?_ _)); exact BK2.out⟩, ⟨by (with_reducible repeat (first | refine blk_drewN ?_ _ | refine blk_drew ?_ | refine blk_alloc ?_ _)); refine blk_far ?_ NB3_12.out _; (with_reducible repeat (first | refine blk_drewN ?_ _ | refine blk_drew ?_ | refine blk_alloc ?_ _)); refine blk_far ?_ NB3_12.out _; (with_reducible repeat (first | refine blk_drewN ?_ _ | refine blk_drew ?_ | refine blk_alloc ?_ _)); exact BK3.out⟩, ⟨by (with_reducible repeat (first | refine blk_drewN ?_ _ | refine blk_drew ?_ | refine blk_alloc ?_ _)); refine blk_far ?_ NB8_12.out _; (with_reducible repeat (first | refine blk_drewN ?_ _ | refine blk_drew ?_ | refine blk_alloc ?_ _)); refine blk_far ?_ NB8_12.out _; (with_reducible repeat (first | refine blk_drewN ?_ _ | refine blk_drew ?_ | refine blk_alloc ?_ _)); exact BK8.out⟩, ⟨by (with_reducible repeat (first | refine blk_drewN ?_ _ | refine blk_drew ?_ | refine blk_alloc ?_ _)); refine blk_put (cs := #[.int .u32 t9, .int .u32 0]) ?_ 1 _ rfl; (with_reducible repeat (first | refine blk_drewN ?_ _ | refine blk_drew ?_ | refine blk_alloc ?_ _)); refine blk_put (cs := #[.int .u32 0, .int .u32 0]) ?_ 0 _ rfl; (with_reducible repeat (first | refine blk_drewN ?_ _ | refine blk_drew ?_ | refine blk_alloc ?_ _)); exact BK12.out⟩, ⟨by repeat (first | (with_reducible first | exact HB.out | apply below_alloc | apply pw_below_drewN | apply below_drew1 | refine below_set ?_ GE1.out | refine below_set ?_ GE2.out | refine below_set ?_ GE3.out | refine below_set ?_ GE8.out | refine below_set ?_ GE12.out) | exact HB.out)⟩⟩
  case rest =>
   clear HC8
   try clear c1
   try clear c2
   try clear p2
   try clear c3
   try clear c4
   try clear c5
   try clear c6
   try clear c8
   try clear c9
   try clear c13
   try clear c14
   try clear c16
   try clear c20
   try clear c21
   try clear c22
   try clear c28
   try clear c29
   try clear c30
   try clear c31
   try clear c33
   try clear c33b0
   try clear c34
   try clear c35
   try clear c36
   try clear c37
   try clear c39
   try clear c40
   try clear c41
   try clear c43
   try clear c44
   try clear c45
   try clear c46
   try clear c48
   try clear c49
   try clear c50
   try clear hcz15_0
   try clear hcz15_1
   try clear hcz17_0
   try clear hcz17_1
   try clear hcz23_0
   try clear hcz23_1
   try clear hcz24_0
   try clear hcz24_1
   try clear hcz25_0
   try clear hcz25_1
   try clear hcz32_0
   try clear hcz32_1
   try clear hcz38_0
   try clear hcz38_1
   try clear hcz42_0
   try clear hcz42_1
   try clear hcz47_0
   try clear hcz47_1
   try clear hcz51_0
   try clear hcz51_1
   try clear hfz15_0
   try clear hfz15_1
   try clear hfz17_0
   try clear hfz17_1
   try clear hfz23_0
   try clear hfz23_1
   try clear hfz24_0
   try clear hfz24_1
   try clear hfz25_0
   try clear hfz25_1
   try clear hfz32_0
   try clear hfz32_1
   try clear hfz38_0
   try clear hfz38_1
   try clear hfz42_0
   try clear hfz42_1
   try clear hfz47_0
   try clear hfz47_1
   try clear hfz51_0
   try clear hfz51_1
   obtain ⟨kq, x40_7, rfl, HA, HJ7, BK1, BK2, BK3, BK8, BK12, HB⟩ := hcut
   cases kq with
   | zero => exact absurd HA.out (by simp [q5z.j0])
   | succ kj7 =>
    have H := HA.out
    clear HA
    simp only [q5z.j0] at H
    by_cases c52 : x40_7 = true
    ·
     subst c52
     have H1 : (some false) = some r := by rw [if_pos rfl] at H; exact H
     clear H
     have H := H1
     clear H1
     obtain rfl := Option.some.inj H
     go_wp2
     go_ret
     exact ⟨by first | rfl | (simp [errW_none, errW_some] <;> rfl) | (simp [*, errW_none, errW_some] <;> rfl), by repeat (first | (with_reducible first | exact HB.out | apply below_alloc | apply pw_below_drewN | apply below_drew1 | refine below_set ?_ GE1.out | refine below_set ?_ GE2.out | refine below_set ?_ GE3.out | refine below_set ?_ GE8.out | refine below_set ?_ GE12.out) | exact HB.out)⟩
    ·
     replace c52 := Bool.eq_false_iff.mpr c52
     subst c52
     have H1 : ((plane_Meet.f a0_0 a0_1 a0_0 a0_1).bind fun bt13 => (if bt13.2.2 = true then (if (!(bt13.1 == a0_0) || (!(bt13.2.1 == a0_1))) = true then (q5z.j1 kj7 t7 true a0_0 a0_1 a1_0 a1_1 a2_0 a2_1 t5 t6) else ((plane_In.f a0_0 a0_1 a0_0).bind fun t17 => (q5z.j1 kj7 t7 (bt13.2.2 != t17) a0_0 a0_1 a1_0 a1_1 a2_0 a2_1 t5 t6))) else ((plane_In.f a0_0 a0_1 a0_0).bind fun t18 => (q5z.j1 kj7 t7 (bt13.2.2 != t18) a0_0 a0_1 a1_0 a1_1 a2_0 a2_1 t5 t6)))) = some r := by rw [if_neg (show ¬ (false = true) by decide)] at H; exact H
     clear H
     have H := H1
     clear H1
     replace H := Option.bind_eq_some_iff.mp H
     obtain ⟨⟨t13, t14, t15⟩, A530, H⟩ := H
     replace H : (if t15 = true then (if (!(t13 == a0_0) || (!(t14 == a0_1))) = true then (q5z.j1 kj7 t7 true a0_0 a0_1 a1_0 a1_1 a2_0 a2_1 t5 t6) else ((plane_In.f a0_0 a0_1 a0_0).bind fun t17 => (q5z.j1 kj7 t7 (t15 != t17) a0_0 a0_1 a1_0 a1_1 a2_0 a2_1 t5 t6))) else ((plane_In.f a0_0 a0_1 a0_0).bind fun t18 => (q5z.j1 kj7 t7 (t15 != t18) a0_0 a0_1 a1_0 a1_1 a2_0 a2_1 t5 t6))) = some r := H
     have A53 := Aside0.mk A530
     clear A530
     have HC54 := Aside0.mk H
     clear H
     have hnb55 := NB1_2.out
     have hnc55 := NB2_1.out
     have hnb56 := NB1_3.out
     have hnc56 := NB3_1.out
     have hnb57 := NB1_8.out
     have hnc57 := NB8_1.out
     have hnb58 := NB1_12.out
     have hnc58 := NB12_1.out
     have hcz59_0 : wc.cell? ⟨gb1, 0, none⟩ = some (.int .u32 a0_0) := (blk_cell BK1.out 0).trans rfl
     have hcz59_1 : wc.cell? ⟨gb1, 1, none⟩ = some (.int .u32 a0_1) := (blk_cell BK1.out 1).trans rfl
     have hfz59_0 := blk_frozen BK1.out 0
     have hfz59_1 := blk_frozen BK1.out 1
     go_upto_region 8 with (first | ((with_reducible refine gate_callee (f := 9) rfl ?_); refine goesL_ (some 44) rfl rfl Try.func9 (by kernel_rfl) rfl #[.agg #[.int .u32 a0_0, .int .u32 a0_1], .agg #[.int .u32 a0_0, .int .u32 a0_1]] rfl (by (try simp only [List.map_toArray, List.map_cons, List.map_nil]); first | done | rfl | (simp only [List.length_drop, List.length_take]; rfl)) ?_; (with_reducible refine (plane_Meet.calls a0_0 a0_1 a0_0 a0_1 t13 t14 t15 _ A53.out).mono ?_); rintro e w60 ⟨rfl, hb⟩; refine ⟨_, rfl, ?_⟩; have n0_ := Aside0.mk (blk_below (g := gb1) (o := .cells #[.int .u32 a0_0, .int .u32 a0_1] 24 (0, 0)) (by (with_reducible repeat (first | refine blk_drewN ?_ _ | refine blk_drew ?_ | refine blk_alloc ?_ _)); exact BK1.out) hb); have n1_ := Aside0.mk (blk_below (g := gb2) (o := .cells #[.int .u32 a1_0, .int .u32 a1_1] 24 (0, 0)) (by (with_reducible repeat (first | refine blk_drewN ?_ _ | refine blk_drew ?_ | refine blk_alloc ?_ _)); exact BK2.out) hb); have n2_ := Aside0.mk (blk_below (g := gb3) (o := .cells #[.int .u32 a2_0, .int .u32 a2_1] 24 (0, 0)) (by (with_reducible repeat (first | refine blk_drewN ?_ _ | refine blk_drew ?_ | refine blk_alloc ?_ _)); exact BK3.out) hb); have n3_ := Aside0.mk (blk_below (g := gb8) (o := .cells #[.int .u32 t5, .int .u32 t6] 24 (0, 0)) (by (with_reducible repeat (first | refine blk_drewN ?_ _ | refine blk_drew ?_ | refine blk_alloc ?_ _)); exact BK8.out) hb); have n4_ := Aside0.mk (blk_below (g := gb12) (o := .cells #[.int .u32 t9, .int .u32 t10] 24 (0, 0)) (by (with_reducible repeat (first | refine blk_drewN ?_ _ | refine blk_drew ?_ | refine blk_alloc ?_ _)); exact BK12.out) hb); have n5_ := Aside0.mk (below_step (by repeat (first | (with_reducible first | exact HB.out | apply below_alloc | apply pw_below_drewN | apply below_drew1 | refine below_set ?_ GE1.out | refine below_set ?_ GE2.out | refine below_set ?_ GE3.out | refine below_set ?_ GE8.out | refine below_set ?_ GE12.out) | exact HB.out)) hb); clear BK1; clear BK2; clear BK3; clear BK8; clear BK12; clear HB; have BK1 := n0_; have BK2 := n1_; have BK3 := n2_; have BK8 := n3_; have BK12 := n4_; have HB := n5_; clear n0_ n1_ n2_ n3_ n4_ n5_; (try clear hb); (try clear hb2); (try clear hk); (try clear hi)) | ((with_reducible refine gate_dst (N := 11) rfl ?_); refine box_event ?hg (N := 11) ?hd (cs := #[.int .u32 0, .int .u32 0]) (t := 24) ?hr ?_; (case hd => rfl); (case hg => rfl); (case hr => first | (go_simp; done) | (go_simp; rfl)); intro gb16 hg w61 hbox hb; have n0_ := Aside0.mk (blk_below (g := gb1) (o := .cells #[.int .u32 a0_0, .int .u32 a0_1] 24 (0, 0)) (by (with_reducible repeat (first | refine blk_drewN ?_ _ | refine blk_drew ?_ | refine blk_alloc ?_ _)); exact BK1.out) hb); have n1_ := Aside0.mk (blk_below (g := gb2) (o := .cells #[.int .u32 a1_0, .int .u32 a1_1] 24 (0, 0)) (by (with_reducible repeat (first | refine blk_drewN ?_ _ | refine blk_drew ?_ | refine blk_alloc ?_ _)); exact BK2.out) hb); have n2_ := Aside0.mk (blk_below (g := gb3) (o := .cells #[.int .u32 a2_0, .int .u32 a2_1] 24 (0, 0)) (by (with_reducible repeat (first | refine blk_drewN ?_ _ | refine blk_drew ?_ | refine blk_alloc ?_ _)); exact BK3.out) hb); have n3_ := Aside0.mk (blk_below (g := gb8) (o := .cells #[.int .u32 t5, .int .u32 t6] 24 (0, 0)) (by (with_reducible repeat (first | refine blk_drewN ?_ _ | refine blk_drew ?_ | refine blk_alloc ?_ _)); exact BK8.out) hb); have n4_ := Aside0.mk (blk_below (g := gb12) (o := .cells #[.int .u32 t9, .int .u32 t10] 24 (0, 0)) (by (with_reducible repeat (first | refine blk_drewN ?_ _ | refine blk_drew ?_ | refine blk_alloc ?_ _)); exact BK12.out) hb); have n5_ := Aside0.mk (below_step (by repeat (first | (with_reducible first | exact HB.out | apply below_alloc | apply pw_below_drewN | apply below_drew1 | refine below_set ?_ GE1.out | refine below_set ?_ GE2.out | refine below_set ?_ GE3.out | refine below_set ?_ GE8.out | refine below_set ?_ GE12.out) | exact HB.out)) hb); have n6_ := Aside0.mk (hbox); have n7_ := Aside0.mk ((by rw [hg]; exact (below_size (by repeat (first | (with_reducible first | exact HB.out | apply below_alloc | apply pw_below_drewN | apply below_drew1 | refine below_set ?_ GE1.out | refine below_set ?_ GE2.out | refine below_set ?_ GE3.out | refine below_set ?_ GE8.out | refine below_set ?_ GE12.out) | exact HB.out))) : w.heap.size ≤ gb16)); have n8_ := Aside0.mk ((by rw [hg]; exact (below_size (by repeat (first | (with_reducible first | exact HB.out | apply below_alloc | apply pw_below_drewN | apply below_drew1 | refine below_set ?_ GE1.out | refine below_set ?_ GE2.out | refine below_set ?_ GE3.out | refine below_set ?_ GE8.out | refine below_set ?_ GE12.out) | exact HB.out))) : w.heap.size ≤ gb16)); have n9_ := Aside0.mk ((by rw [hg]; exact Nat.ne_of_lt (blk_lt (g := gb1) (o := .cells #[.int .u32 a0_0, .int .u32 a0_1] 24 (0, 0)) (by (with_reducible repeat (first | refine blk_drewN ?_ _ | refine blk_drew ?_ | refine blk_alloc ?_ _)); exact BK1.out)) : gb1 ≠ gb16)); have n10_ := Aside0.mk ((by rw [hg]; exact Nat.ne_of_gt (blk_lt (g := gb1) (o := .cells #[.int .u32 a0_0, .int .u32 a0_1] 24 (0, 0)) (by (with_reducible repeat (first | refine blk_drewN ?_ _ | refine blk_drew ?_ | refine blk_alloc ?_ _)); exact BK1.out)) : gb16 ≠ gb1)); have n11_ := Aside0.mk ((by rw [hg]; exact Nat.ne_of_lt (blk_lt (g := gb2) (o := .cells #[.int .u32 a1_0, .int .u32 a1_1] 24 (0, 0)) (by (with_reducible repeat (first | refine blk_drewN ?_ _ | refine blk_drew ?_ | refine blk_alloc ?_ _)); exact BK2.out)) : gb2 ≠ gb16)); have n12_ := Aside0.mk ((by rw [hg]; exact Nat.ne_of_gt (blk_lt (g := gb2) (o := .cells #[.int .u32 a1_0, .int .u32 a1_1] 24 (0, 0)) (by (with_reducible repeat (first | refine blk_drewN ?_ _ | refine blk_drew ?_ | refine blk_alloc ?_ _)); exact BK2.out)) : gb16 ≠ gb2)); have n13_ := Aside0.mk ((by rw [hg]; exact Nat.ne_of_lt (blk_lt (g := gb3) (o := .cells #[.int .u32 a2_0, .int .u32 a2_1] 24 (0, 0)) (by (with_reducible repeat (first | refine blk_drewN ?_ _ | refine blk_drew ?_ | refine blk_alloc ?_ _)); exact BK3.out)) : gb3 ≠ gb16)); have n14_ := Aside0.mk ((by rw [hg]; exact Nat.ne_of_gt (blk_lt (g := gb3) (o := .cells #[.int .u32 a2_0, .int .u32 a2_1] 24 (0, 0)) (by (with_reducible repeat (first | refine blk_drewN ?_ _ | refine blk_drew ?_ | refine blk_alloc ?_ _)); exact BK3.out)) : gb16 ≠ gb3)); have n15_ := Aside0.mk ((by rw [hg]; exact Nat.ne_of_lt (blk_lt (g := gb8) (o := .cells #[.int .u32 t5, .int .u32 t6] 24 (0, 0)) (by (with_reducible repeat (first | refine blk_drewN ?_ _ | refine blk_drew ?_ | refine blk_alloc ?_ _)); exact BK8.out)) : gb8 ≠ gb16)); have n16_ := Aside0.mk ((by rw [hg]; exact Nat.ne_of_gt (blk_lt (g := gb8) (o := .cells #[.int .u32 t5, .int .u32 t6] 24 (0, 0)) (by (with_reducible repeat (first | refine blk_drewN ?_ _ | refine blk_drew ?_ | refine blk_alloc ?_ _)); exact BK8.out)) : gb16 ≠ gb8)); have n17_ := Aside0.mk ((by rw [hg]; exact Nat.ne_of_lt (blk_lt (g := gb12) (o := .cells #[.int .u32 t9, .int .u32 t10] 24 (0, 0)) (by (with_reducible repeat (first | refine blk_drewN ?_ _ | refine blk_drew ?_ | refine blk_alloc ?_ _)); exact BK12.out)) : gb12 ≠ gb16)); have n18_ := Aside0.mk ((by rw [hg]; exact Nat.ne_of_gt (blk_lt (g := gb12) (o := .cells #[.int .u32 t9, .int .u32 t10] 24 (0, 0)) (by (with_reducible repeat (first | refine blk_drewN ?_ _ | refine blk_drew ?_ | refine blk_alloc ?_ _)); exact BK12.out)) : gb16 ≠ gb12)); clear BK1; clear BK2; clear BK3; clear BK8; clear BK12; clear HB; have BK1 := n0_; have BK2 := n1_; have BK3 := n2_; have BK8 := n3_; have BK12 := n4_; have HB := n5_; have BK16 := n6_; have GW16 := n7_; have GE16 := n8_; have NB1_16 := n9_; have NB16_1 := n10_; have NB2_16 := n11_; have NB16_2 := n12_; have NB3_16 := n13_; have NB16_3 := n14_; have NB8_16 := n15_; have NB16_8 := n16_; have NB12_16 := n17_; have NB16_12 := n18_; clear n0_ n1_ n2_ n3_ n4_ n5_ n6_ n7_ n8_ n9_ n10_ n11_ n12_ n13_ n14_ n15_ n16_ n17_ n18_; clear hb hbox hg; have hnb62 := NB16_1.out; have hnc62 := NB1_16.out; have hnb63 := NB16_2.out; have hnc63 := NB2_16.out; have hnb64 := NB16_3.out; have hnc64 := NB3_16.out; have hnb65 := NB16_8.out; have hnc65 := NB8_16.out; have hnb66 := NB16_12.out; have hnc66 := NB12_16.out; have hcz67_0 : w61.cell? ⟨gb16, 0, none⟩ = some (.int .u32 0) := (blk_cell BK16.out 0).trans rfl; have hcz67_1 : w61.cell? ⟨gb16, 1, none⟩ = some (.int .u32 0) := (blk_cell BK16.out 1).trans rfl; have hfz67_0 := blk_frozen BK16.out 0; have hfz67_1 := blk_frozen BK16.out 1))
     (try simp only [Act.put, List.setIfInBounds_toArray, List.set_cons_zero, List.set_cons_succ])
     go_cut [60] (fun v60 wc => ∃ (kq : Nat) (x60_53 : Bool), v60 = .bool x60_53 ∧ Aside0 (q5z.j1 kq t7 x60_53 a0_0 a0_1 a1_0 a1_1 a2_0 a2_1 t5 t6 = some r) ∧ Aside0 (kq ≤ kj7) ∧ Aside0 (wc.heap[gb1]? = some (.cells #[.int .u32 a0_0, .int .u32 a0_1] 24 (0, 0))) ∧ Aside0 (wc.heap[gb2]? = some (.cells #[.int .u32 a1_0, .int .u32 a1_1] 24 (0, 0))) ∧ Aside0 (wc.heap[gb3]? = some (.cells #[.int .u32 a2_0, .int .u32 a2_1] 24 (0, 0))) ∧ Aside0 (wc.heap[gb8]? = some (.cells #[.int .u32 t5, .int .u32 t6] 24 (0, 0))) ∧ Aside0 (wc.heap[gb12]? = some (.cells #[.int .u32 t9, .int .u32 t10] 24 (0, 0))) ∧ Aside0 (wc.heap[gb16]? = some (.cells #[.int .u32 t13, .int .u32 t14] 24 (0, 0))) ∧ Aside0 (Below w.heap.size w wc))
     case first =>
      have H := HC54.out
      clear HC54
      by_cases c68 : t15 = true
      ·
       subst c68
       have H1 : (if (!(t13 == a0_0) || (!(t14 == a0_1))) = true then (q5z.j1 kj7 t7 true a0_0 a0_1 a1_0 a1_1 a2_0 a2_1 t5 t6) else ((plane_In.f a0_0 a0_1 a0_0).bind fun t17 => (q5z.j1 kj7 t7 (true != t17) a0_0 a0_1 a1_0 a1_1 a2_0 a2_1 t5 t6))) = some r := by rw [if_pos rfl] at H; exact H
       clear H
       have H := H1
       clear H1
       by_cases c69 : (!(t13 == a0_0) || (!(t14 == a0_1))) = true
       ·
        rw [if_pos c69] at H
        have c69b0 : (!(t13 == a0_0) || (!(t14 == a0_1))) = true := c69
        clear c69
        (first | rw [c69b0] | (simp only [i64_w, i32_w, IntKind.wrap_u32]; rw [c69b0]) | skip)
        have H' := Aside0.mk H
        clear H
        have hnb70 := NB16_1.out
        have hnc70 := NB1_16.out
        have hnb71 := NB16_2.out
        have hnc71 := NB2_16.out
        have hnb72 := NB16_3.out
        have hnc72 := NB3_16.out
        have hnb73 := NB16_8.out
        have hnc73 := NB8_16.out
        have hnb74 := NB16_12.out
        have hnc74 := NB12_16.out
        have hcz75_0 : w61.cell? ⟨gb16, 0, none⟩ = some (.int .u32 0) := (blk_cell BK16.out 0).trans rfl
        have hcz75_1 : w61.cell? ⟨gb16, 1, none⟩ = some (.int .u32 0) := (blk_cell BK16.out 1).trans rfl
        have hfz75_0 := blk_frozen BK16.out 0
        have hfz75_1 := blk_frozen BK16.out 1
        have hnb76 := NB1_2.out
        have hnc76 := NB2_1.out
        have hnb77 := NB1_3.out
        have hnc77 := NB3_1.out
        have hnb78 := NB1_8.out
        have hnc78 := NB8_1.out
        have hnb79 := NB1_12.out
        have hnc79 := NB12_1.out
        have hcz80_0 : w61.cell? ⟨gb1, 0, none⟩ = some (.int .u32 a0_0) := (blk_cell BK1.out 0).trans rfl
        have hcz80_1 : w61.cell? ⟨gb1, 1, none⟩ = some (.int .u32 a0_1) := (blk_cell BK1.out 1).trans rfl
        have hfz80_0 := blk_frozen BK1.out 0
        have hfz80_1 := blk_frozen BK1.out 1
        go_wp2
        go_meet
        case rel => exact ⟨_, (true), (by first | rfl | (simp; done) | (simp [*]; done)), H', ⟨by have := HJ7.out; first | omega | exact Nat.le_refl _⟩, ⟨by (with_reducible repeat (first | refine blk_drewN ?_ _ | refine blk_drew ?_ | refine blk_alloc ?_ _)); refine blk_far ?_ NB1_16.out _; (with_reducible repeat (first | refine blk_drewN ?_ _ | refine blk_drew ?_ | refine blk_alloc ?_ _)); refine blk_far ?_ NB1_16.out _; (with_reducible repeat (first | refine blk_drewN ?_ _ | refine blk_drew ?_ | refine blk_alloc ?_ _)); exact BK1.out⟩, ⟨by (with_reducible repeat (first | refine blk_drewN ?_ _ | refine blk_drew ?_ | refine blk_alloc ?_ _)); refine blk_far ?_ NB2_16.out _; (with_reducible repeat (first | refine blk_drewN ?_ _ | refine blk_drew ?_ | refine blk_alloc ?_ _)); refine blk_far ?_ NB2_16.out _; (with_reducible repeat (first | refine blk_drewN ?_ _ | refine blk_drew ?_ | refine blk_alloc ?_ _)); exact BK2.out⟩, ⟨by (with_reducible repeat (first | refine blk_drewN ?_ _ | refine blk_drew ?_ | refine blk_alloc ?_ _)); refine blk_far ?_ NB3_16.out _; (with_reducible repeat (first | refine blk_drewN ?_ _ | refine blk_drew ?_ | refine blk_alloc ?_ _)); refine blk_far ?_ NB3_16.out _; (with_reducible repeat (first | refine blk_drewN ?_ _ | refine blk_drew ?_ | refine blk_alloc ?_ _)); exact BK3.out⟩, ⟨by (with_reducible repeat (first | refine blk_drewN ?_ _ | refine blk_drew ?_ | refine blk_alloc ?_ _)); refine blk_far ?_ NB8_16.out _; (with_reducible repeat (first | refine blk_drewN ?_ _ | refine blk_drew ?_ | refine blk_alloc ?_ _)); refine blk_far ?_ NB8_16.out _; (with_reducible repeat (first | refine blk_drewN ?_ _ | refine blk_drew ?_ | refine blk_alloc ?_ _)); exact BK8.out⟩, ⟨by (with_reducible repeat (first | refine blk_drewN ?_ _ | refine blk_drew ?_ | refine blk_alloc ?_ _)); refine blk_far ?_ NB12_16.out _; (with_reducible repeat (first | refine blk_drewN ?_ _ | refine blk_drew ?_ | refine blk_alloc ?_ _)); refine blk_far ?_ NB12_16.out _; (with_reducible repeat (first | refine blk_drewN ?_ _ | refine blk_drew ?_ | refine blk_alloc ?_ _)); exact BK12.out⟩, ⟨by (with_reducible repeat (first | refine blk_drewN ?_ _ | refine blk_drew ?_ | refine blk_alloc ?_ _)); refine blk_put (cs := #[.int .u32 t13, .int .u32 0]) ?_ 1 _ rfl; (with_reducible repeat (first | refine blk_drewN ?_ _ | refine blk_drew ?_ | refine blk_alloc ?_ _)); refine blk_put (cs := #[.int .u32 0, .int .u32 0]) ?_ 0 _ rfl; (with_reducible repeat (first | refine blk_drewN ?_ _ | refine blk_drew ?_ | refine blk_alloc ?_ _)); exact BK16.out⟩, ⟨by repeat (first | (with_reducible first | exact HB.out | apply below_alloc | apply pw_below_drewN | apply below_drew1 | refine below_set ?_ GE1.out | refine below_set ?_ GE2.out | refine below_set ?_ GE3.out | refine below_set ?_ GE8.out | refine below_set ?_ GE12.out | refine below_set ?_ GE16.out) | exact HB.out)⟩⟩
       ·
        rw [if_neg c69] at H
        have c69b0 : (!(t13 == a0_0) || (!(t14 == a0_1))) = false := by simpa using c69
        clear c69
        (first | rw [c69b0] | (simp only [i64_w, i32_w, IntKind.wrap_u32]; rw [c69b0]) | skip)
        replace H := Option.bind_eq_some_iff.mp H
        obtain ⟨t17, A810, H⟩ := H
        replace H : (q5z.j1 kj7 t7 (true != t17) a0_0 a0_1 a1_0 a1_1 a2_0 a2_1 t5 t6) = some r := H
        have A81 := Aside0.mk A810
        clear A810
        have H' := Aside0.mk H
        clear H
        have hnb82 := NB16_1.out
        have hnc82 := NB1_16.out
        have hnb83 := NB16_2.out
        have hnc83 := NB2_16.out
        have hnb84 := NB16_3.out
        have hnc84 := NB3_16.out
        have hnb85 := NB16_8.out
        have hnc85 := NB8_16.out
        have hnb86 := NB16_12.out
        have hnc86 := NB12_16.out
        have hcz87_0 : w61.cell? ⟨gb16, 0, none⟩ = some (.int .u32 0) := (blk_cell BK16.out 0).trans rfl
        have hcz87_1 : w61.cell? ⟨gb16, 1, none⟩ = some (.int .u32 0) := (blk_cell BK16.out 1).trans rfl
        have hfz87_0 := blk_frozen BK16.out 0
        have hfz87_1 := blk_frozen BK16.out 1
        have hnb88 := NB1_2.out
        have hnc88 := NB2_1.out
        have hnb89 := NB1_3.out
        have hnc89 := NB3_1.out
        have hnb90 := NB1_8.out
        have hnc90 := NB8_1.out
        have hnb91 := NB1_12.out
        have hnc91 := NB12_1.out
        have hcz92_0 : w61.cell? ⟨gb1, 0, none⟩ = some (.int .u32 a0_0) := (blk_cell BK1.out 0).trans rfl
        have hcz92_1 : w61.cell? ⟨gb1, 1, none⟩ = some (.int .u32 a0_1) := (blk_cell BK1.out 1).trans rfl
        have hfz92_0 := blk_frozen BK1.out 0
        have hfz92_1 := blk_frozen BK1.out 1
        go_wp2_with (first | (go_at_call 11; (with_reducible refine (plane_In.calls a0_0 a0_1 a0_0 t17 _ A81.out).mono ?_); rintro e w93 ⟨rfl, hb⟩; have n0_ := Aside0.mk (blk_below (g := gb1) (o := .cells #[.int .u32 a0_0, .int .u32 a0_1] 24 (0, 0)) (by (with_reducible repeat (first | refine blk_drewN ?_ _ | refine blk_drew ?_ | refine blk_alloc ?_ _)); refine blk_far ?_ NB1_16.out _; (with_reducible repeat (first | refine blk_drewN ?_ _ | refine blk_drew ?_ | refine blk_alloc ?_ _)); refine blk_far ?_ NB1_16.out _; (with_reducible repeat (first | refine blk_drewN ?_ _ | refine blk_drew ?_ | refine blk_alloc ?_ _)); exact BK1.out) hb); have n1_ := Aside0.mk (blk_below (g := gb2) (o := .cells #[.int .u32 a1_0, .int .u32 a1_1] 24 (0, 0)) (by (with_reducible repeat (first | refine blk_drewN ?_ _ | refine blk_drew ?_ | refine blk_alloc ?_ _)); refine blk_far ?_ NB2_16.out _; (with_reducible repeat (first | refine blk_drewN ?_ _ | refine blk_drew ?_ | refine blk_alloc ?_ _)); refine blk_far ?_ NB2_16.out _; (with_reducible repeat (first | refine blk_drewN ?_ _ | refine blk_drew ?_ | refine blk_alloc ?_ _)); exact BK2.out) hb); have n2_ := Aside0.mk (blk_below (g := gb3) (o := .cells #[.int .u32 a2_0, .int .u32 a2_1] 24 (0, 0)) (by (with_reducible repeat (first | refine blk_drewN ?_ _ | refine blk_drew ?_ | refine blk_alloc ?_ _)); refine blk_far ?_ NB3_16.out _; (with_reducible repeat (first | refine blk_drewN ?_ _ | refine blk_drew ?_ | refine blk_alloc ?_ _)); refine blk_far ?_ NB3_16.out _; (with_reducible repeat (first | refine blk_drewN ?_ _ | refine blk_drew ?_ | refine blk_alloc ?_ _)); exact BK3.out) hb); have n3_ := Aside0.mk (blk_below (g := gb8) (o := .cells #[.int .u32 t5, .int .u32 t6] 24 (0, 0)) (by (with_reducible repeat (first | refine blk_drewN ?_ _ | refine blk_drew ?_ | refine blk_alloc ?_ _)); refine blk_far ?_ NB8_16.out _; (with_reducible repeat (first | refine blk_drewN ?_ _ | refine blk_drew ?_ | refine blk_alloc ?_ _)); refine blk_far ?_ NB8_16.out _; (with_reducible repeat (first | refine blk_drewN ?_ _ | refine blk_drew ?_ | refine blk_alloc ?_ _)); exact BK8.out) hb); have n4_ := Aside0.mk (blk_below (g := gb12) (o := .cells #[.int .u32 t9, .int .u32 t10] 24 (0, 0)) (by (with_reducible repeat (first | refine blk_drewN ?_ _ | refine blk_drew ?_ | refine blk_alloc ?_ _)); refine blk_far ?_ NB12_16.out _; (with_reducible repeat (first | refine blk_drewN ?_ _ | refine blk_drew ?_ | refine blk_alloc ?_ _)); refine blk_far ?_ NB12_16.out _; (with_reducible repeat (first | refine blk_drewN ?_ _ | refine blk_drew ?_ | refine blk_alloc ?_ _)); exact BK12.out) hb); have n5_ := Aside0.mk (blk_below (g := gb16) (o := .cells #[.int .u32 t13, .int .u32 t14] 24 (0, 0)) (by (with_reducible repeat (first | refine blk_drewN ?_ _ | refine blk_drew ?_ | refine blk_alloc ?_ _)); refine blk_put (cs := #[.int .u32 t13, .int .u32 0]) ?_ 1 _ rfl; (with_reducible repeat (first | refine blk_drewN ?_ _ | refine blk_drew ?_ | refine blk_alloc ?_ _)); refine blk_put (cs := #[.int .u32 0, .int .u32 0]) ?_ 0 _ rfl; (with_reducible repeat (first | refine blk_drewN ?_ _ | refine blk_drew ?_ | refine blk_alloc ?_ _)); exact BK16.out) hb); have n6_ := Aside0.mk (below_step (by repeat (first | (with_reducible first | exact HB.out | apply below_alloc | apply pw_below_drewN | apply below_drew1 | refine below_set ?_ GE1.out | refine below_set ?_ GE2.out | refine below_set ?_ GE3.out | refine below_set ?_ GE8.out | refine below_set ?_ GE12.out | refine below_set ?_ GE16.out) | exact HB.out)) hb); clear BK1; clear BK2; clear BK3; clear BK8; clear BK12; clear BK16; clear HB; have BK1 := n0_; have BK2 := n1_; have BK3 := n2_; have BK8 := n3_; have BK12 := n4_; have BK16 := n5_; have HB := n6_; clear n0_ n1_ n2_ n3_ n4_ n5_ n6_; (try clear hb); (try clear hb2); (try clear hk); (try clear hi)))
        go_meet
        case rel => exact ⟨_, ((true != t17)), (by first | rfl | (simp; done) | (simp [*]; done)), H', ⟨by have := HJ7.out; first | omega | exact Nat.le_refl _⟩, ⟨by (with_reducible repeat (first | refine blk_drewN ?_ _ | refine blk_drew ?_ | refine blk_alloc ?_ _)); exact BK1.out⟩, ⟨by (with_reducible repeat (first | refine blk_drewN ?_ _ | refine blk_drew ?_ | refine blk_alloc ?_ _)); exact BK2.out⟩, ⟨by (with_reducible repeat (first | refine blk_drewN ?_ _ | refine blk_drew ?_ | refine blk_alloc ?_ _)); exact BK3.out⟩, ⟨by (with_reducible repeat (first | refine blk_drewN ?_ _ | refine blk_drew ?_ | refine blk_alloc ?_ _)); exact BK8.out⟩, ⟨by (with_reducible repeat (first | refine blk_drewN ?_ _ | refine blk_drew ?_ | refine blk_alloc ?_ _)); exact BK12.out⟩, ⟨by (with_reducible repeat (first | refine blk_drewN ?_ _ | refine blk_drew ?_ | refine blk_alloc ?_ _)); exact BK16.out⟩, ⟨by repeat (first | (with_reducible first | exact HB.out | apply below_alloc | apply pw_below_drewN | apply below_drew1 | refine below_set ?_ GE1.out | refine below_set ?_ GE2.out | refine below_set ?_ GE3.out | refine below_set ?_ GE8.out | refine below_set ?_ GE12.out | refine below_set ?_ GE16.out) | exact HB.out)⟩⟩
      ·
       replace c68 := Bool.eq_false_iff.mpr c68
       subst c68
       have H1 : ((plane_In.f a0_0 a0_1 a0_0).bind fun t18 => (q5z.j1 kj7 t7 (false != t18) a0_0 a0_1 a1_0 a1_1 a2_0 a2_1 t5 t6)) = some r := by rw [if_neg (show ¬ (false = true) by decide)] at H; exact H
       clear H
       have H := H1
       clear H1
       replace H := Option.bind_eq_some_iff.mp H
       obtain ⟨t18, A940, H⟩ := H
       replace H : (q5z.j1 kj7 t7 (false != t18) a0_0 a0_1 a1_0 a1_1 a2_0 a2_1 t5 t6) = some r := H
       have A94 := Aside0.mk A940
       clear A940
       have H' := Aside0.mk H
       clear H
       have hnb95 := NB1_2.out
       have hnc95 := NB2_1.out
       have hnb96 := NB1_3.out
       have hnc96 := NB3_1.out
       have hnb97 := NB1_8.out
       have hnc97 := NB8_1.out
       have hnb98 := NB1_12.out
       have hnc98 := NB12_1.out
       have hnb99 := NB1_16.out
       have hnc99 := NB16_1.out
       have hcz100_0 : w61.cell? ⟨gb1, 0, none⟩ = some (.int .u32 a0_0) := (blk_cell BK1.out 0).trans rfl
       have hcz100_1 : w61.cell? ⟨gb1, 1, none⟩ = some (.int .u32 a0_1) := (blk_cell BK1.out 1).trans rfl
       have hfz100_0 := blk_frozen BK1.out 0
       have hfz100_1 := blk_frozen BK1.out 1
       go_wp2_with (first | (go_at_call 11; (with_reducible refine (plane_In.calls a0_0 a0_1 a0_0 t18 _ A94.out).mono ?_); rintro e w101 ⟨rfl, hb⟩; have n0_ := Aside0.mk (blk_below (g := gb1) (o := .cells #[.int .u32 a0_0, .int .u32 a0_1] 24 (0, 0)) (by (with_reducible repeat (first | refine blk_drewN ?_ _ | refine blk_drew ?_ | refine blk_alloc ?_ _)); refine blk_far ?_ NB1_16.out _; (with_reducible repeat (first | refine blk_drewN ?_ _ | refine blk_drew ?_ | refine blk_alloc ?_ _)); refine blk_far ?_ NB1_16.out _; (with_reducible repeat (first | refine blk_drewN ?_ _ | refine blk_drew ?_ | refine blk_alloc ?_ _)); exact BK1.out) hb); have n1_ := Aside0.mk (blk_below (g := gb2) (o := .cells #[.int .u32 a1_0, .int .u32 a1_1] 24 (0, 0)) (by (with_reducible repeat (first | refine blk_drewN ?_ _ | refine blk_drew ?_ | refine blk_alloc ?_ _)); refine blk_far ?_ NB2_16.out _; (with_reducible repeat (first | refine blk_drewN ?_ _ | refine blk_drew ?_ | refine blk_alloc ?_ _)); refine blk_far ?_ NB2_16.out _; (with_reducible repeat (first | refine blk_drewN ?_ _ | refine blk_drew ?_ | refine blk_alloc ?_ _)); exact BK2.out) hb); have n2_ := Aside0.mk (blk_below (g := gb3) (o := .cells #[.int .u32 a2_0, .int .u32 a2_1] 24 (0, 0)) (by (with_reducible repeat (first | refine blk_drewN ?_ _ | refine blk_drew ?_ | refine blk_alloc ?_ _)); refine blk_far ?_ NB3_16.out _; (with_reducible repeat (first | refine blk_drewN ?_ _ | refine blk_drew ?_ | refine blk_alloc ?_ _)); refine blk_far ?_ NB3_16.out _; (with_reducible repeat (first | refine blk_drewN ?_ _ | refine blk_drew ?_ | refine blk_alloc ?_ _)); exact BK3.out) hb); have n3_ := Aside0.mk (blk_below (g := gb8) (o := .cells #[.int .u32 t5, .int .u32 t6] 24 (0, 0)) (by (with_reducible repeat (first | refine blk_drewN ?_ _ | refine blk_drew ?_ | refine blk_alloc ?_ _)); refine blk_far ?_ NB8_16.out _; (with_reducible repeat (first | refine blk_drewN ?_ _ | refine blk_drew ?_ | refine blk_alloc ?_ _)); refine blk_far ?_ NB8_16.out _; (with_reducible repeat (first | refine blk_drewN ?_ _ | refine blk_drew ?_ | refine blk_alloc ?_ _)); exact BK8.out) hb); have n4_ := Aside0.mk (blk_below (g := gb12) (o := .cells #[.int .u32 t9, .int .u32 t10] 24 (0, 0)) (by (with_reducible repeat (first | refine blk_drewN ?_ _ | refine blk_drew ?_ | refine blk_alloc ?_ _)); refine blk_far ?_ NB12_16.out _; (with_reducible repeat (first | refine blk_drewN ?_ _ | refine blk_drew ?_ | refine blk_alloc ?_ _)); refine blk_far ?_ NB12_16.out _; (with_reducible repeat (first | refine blk_drewN ?_ _ | refine blk_drew ?_ | refine blk_alloc ?_ _)); exact BK12.out) hb); have n5_ := Aside0.mk (blk_below (g := gb16) (o := .cells #[.int .u32 t13, .int .u32 t14] 24 (0, 0)) (by (with_reducible repeat (first | refine blk_drewN ?_ _ | refine blk_drew ?_ | refine blk_alloc ?_ _)); refine blk_put (cs := #[.int .u32 t13, .int .u32 0]) ?_ 1 _ rfl; (with_reducible repeat (first | refine blk_drewN ?_ _ | refine blk_drew ?_ | refine blk_alloc ?_ _)); refine blk_put (cs := #[.int .u32 0, .int .u32 0]) ?_ 0 _ rfl; (with_reducible repeat (first | refine blk_drewN ?_ _ | refine blk_drew ?_ | refine blk_alloc ?_ _)); exact BK16.out) hb); have n6_ := Aside0.mk (below_step (by repeat (first | (with_reducible first | exact HB.out | apply below_alloc | apply pw_below_drewN | apply below_drew1 | refine below_set ?_ GE1.out | refine below_set ?_ GE2.out | refine below_set ?_ GE3.out | refine below_set ?_ GE8.out | refine below_set ?_ GE12.out | refine below_set ?_ GE16.out) | exact HB.out)) hb); clear BK1; clear BK2; clear BK3; clear BK8; clear BK12; clear BK16; clear HB; have BK1 := n0_; have BK2 := n1_; have BK3 := n2_; have BK8 := n3_; have BK12 := n4_; have BK16 := n5_; have HB := n6_; clear n0_ n1_ n2_ n3_ n4_ n5_ n6_; (try clear hb); (try clear hb2); (try clear hk); (try clear hi)))
       go_meet
       case rel => exact ⟨_, ((false != t18)), (by first | rfl | (simp; done) | (simp [*]; done)), H', ⟨by have := HJ7.out; first | omega | exact Nat.le_refl _⟩, ⟨by (with_reducible repeat (first | refine blk_drewN ?_ _ | refine blk_drew ?_ | refine blk_alloc ?_ _)); exact BK1.out⟩, ⟨by (with_reducible repeat (first | refine blk_drewN ?_ _ | refine blk_drew ?_ | refine blk_alloc ?_ _)); exact BK2.out⟩, ⟨by (with_reducible repeat (first | refine blk_drewN ?_ _ | refine blk_drew ?_ | refine blk_alloc ?_ _)); exact BK3.out⟩, ⟨by (with_reducible repeat (first | refine blk_drewN ?_ _ | refine blk_drew ?_ | refine blk_alloc ?_ _)); exact BK8.out⟩, ⟨by (with_reducible repeat (first | refine blk_drewN ?_ _ | refine blk_drew ?_ | refine blk_alloc ?_ _)); exact BK12.out⟩, ⟨by (with_reducible repeat (first | refine blk_drewN ?_ _ | refine blk_drew ?_ | refine blk_alloc ?_ _)); exact BK16.out⟩, ⟨by repeat (first | (with_reducible first | exact HB.out | apply below_alloc | apply pw_below_drewN | apply below_drew1 | refine below_set ?_ GE1.out | refine below_set ?_ GE2.out | refine below_set ?_ GE3.out | refine below_set ?_ GE8.out | refine below_set ?_ GE12.out | refine below_set ?_ GE16.out) | exact HB.out)⟩⟩
     case rest =>
      clear HC54
      try clear c1
      try clear c2
      try clear p2
      try clear c3
      try clear c4
      try clear c5
      try clear c6
      try clear c7
      try clear c8
      try clear c9
      try clear c13
      try clear c14
      try clear c16
      try clear c20
      try clear c21
      try clear c22
      try clear c28
      try clear c29
      try clear c30
      try clear c31
      try clear c33
      try clear c33b0
      try clear c34
      try clear c35
      try clear c36
      try clear c37
      try clear c39
      try clear c40
      try clear c41
      try clear c43
      try clear c44
      try clear c45
      try clear c46
      try clear c48
      try clear c49
      try clear c50
      try clear c52
      try clear c55
      try clear c56
      try clear c57
      try clear c58
      try clear c62
      try clear c63
      try clear c64
      try clear c65
      try clear c66
      try clear c68
      try clear c69
      try clear c69b0
      try clear c70
      try clear c71
      try clear c72
      try clear c73
      try clear c74
      try clear c76
      try clear c77
      try clear c78
      try clear c79
      try clear c82
      try clear c83
      try clear c84
      try clear c85
      try clear c86
      try clear c88
      try clear c89
      try clear c90
      try clear c91
      try clear c95
      try clear c96
      try clear c97
      try clear c98
      try clear c99
      try clear hcz100_0
      try clear hcz100_1
      try clear hcz15_0
      try clear hcz15_1
      try clear hcz17_0
      try clear hcz17_1
      try clear hcz23_0
      try clear hcz23_1
      try clear hcz24_0
      try clear hcz24_1
      try clear hcz25_0
      try clear hcz25_1
      try clear hcz32_0
      try clear hcz32_1
      try clear hcz38_0
      try clear hcz38_1
      try clear hcz42_0
      try clear hcz42_1
      try clear hcz47_0
      try clear hcz47_1
      try clear hcz51_0
      try clear hcz51_1
      try clear hcz59_0
      try clear hcz59_1
      try clear hcz67_0
      try clear hcz67_1
      try clear hcz75_0
      try clear hcz75_1
      try clear hcz80_0
      try clear hcz80_1
      try clear hcz87_0
      try clear hcz87_1
      try clear hcz92_0
      try clear hcz92_1
      try clear hfz100_0
      try clear hfz100_1
      try clear hfz15_0
      try clear hfz15_1
      try clear hfz17_0
      try clear hfz17_1
      try clear hfz23_0
      try clear hfz23_1
      try clear hfz24_0
      try clear hfz24_1
      try clear hfz25_0
      try clear hfz25_1
      try clear hfz32_0
      try clear hfz32_1
      try clear hfz38_0
      try clear hfz38_1
      try clear hfz42_0
      try clear hfz42_1
      try clear hfz47_0
      try clear hfz47_1
      try clear hfz51_0
      try clear hfz51_1
      try clear hfz59_0
      try clear hfz59_1
      try clear hfz67_0
      try clear hfz67_1
      try clear hfz75_0
      try clear hfz75_1
      try clear hfz80_0
      try clear hfz80_1
      try clear hfz87_0
      try clear hfz87_1
      try clear hfz92_0
      try clear hfz92_1
      try clear p2
      obtain ⟨kq, x60_53, rfl, HA, HJ53, BK1, BK2, BK3, BK8, BK12, BK16, HB⟩ := hcut
      cases kq with
      | zero => exact absurd HA.out (by simp [q5z.j1])
      | succ kj53 =>
       have H := HA.out
       clear HA
       simp only [q5z.j1] at H
       by_cases c102 : x60_53 = true
       ·
        subst c102
        have H1 : (some false) = some r := by rw [if_pos rfl] at H; exact H
        clear H
        have H := H1
        clear H1
        obtain rfl := Option.some.inj H
        go_wp2
        go_ret
        exact ⟨by first | rfl | (simp [errW_none, errW_some] <;> rfl) | (simp [*, errW_none, errW_some] <;> rfl), by repeat (first | (with_reducible first | exact HB.out | apply below_alloc | apply pw_below_drewN | apply below_drew1 | refine below_set ?_ GE1.out | refine below_set ?_ GE2.out | refine below_set ?_ GE3.out | refine below_set ?_ GE8.out | refine below_set ?_ GE12.out | refine below_set ?_ GE16.out) | exact HB.out)⟩
       ·
        replace c102 := Bool.eq_false_iff.mpr c102
        subst c102
        have H1 : ((plane_Meet.f a1_0 a1_1 a2_0 a2_1).bind fun bt19 => ((plane_Meet.f t5 t6 a2_0 a2_1).bind fun bt23 => ((plane_Meet.f a0_0 a0_1 bt19.1 bt19.2.1).bind fun bt27 => (if bt23.2.2 = true then (if bt27.2.2 = true then (if (t7 == bt19.2.2) = true then (if t7 = true then (some (bt23.1 == bt27.1 && (bt23.2.1 == bt27.2.1))) else (some true)) else (some false)) else (if (t7 == false) = true then (if t7 = true then (some (bt23.1 == bt27.1 && (bt23.2.1 == bt27.2.1))) else (some true)) else (some false))) else (if bt27.2.2 = true then (if (false == bt19.2.2) = true then (some true) else (some false)) else (if (false == false) = true then (some true) else (some false))))))) = some r := by rw [if_neg (show ¬ (false = true) by decide)] at H; exact H
        clear H
        have H := H1
        clear H1
        replace H := Option.bind_eq_some_iff.mp H
        obtain ⟨⟨t19, t20, t21⟩, A1030, H⟩ := H
        replace H : ((plane_Meet.f t5 t6 a2_0 a2_1).bind fun bt23 => ((plane_Meet.f a0_0 a0_1 t19 t20).bind fun bt27 => (if bt23.2.2 = true then (if bt27.2.2 = true then (if (t7 == t21) = true then (if t7 = true then (some (bt23.1 == bt27.1 && (bt23.2.1 == bt27.2.1))) else (some true)) else (some false)) else (if (t7 == false) = true then (if t7 = true then (some (bt23.1 == bt27.1 && (bt23.2.1 == bt27.2.1))) else (some true)) else (some false))) else (if bt27.2.2 = true then (if (false == t21) = true then (some true) else (some false)) else (if (false == false) = true then (some true) else (some false)))))) = some r := H
        have A103 := Aside0.mk A1030
        clear A1030
        replace H := Option.bind_eq_some_iff.mp H
        obtain ⟨⟨t23, t24, t25⟩, A1040, H⟩ := H
        replace H : ((plane_Meet.f a0_0 a0_1 t19 t20).bind fun bt27 => (if t25 = true then (if bt27.2.2 = true then (if (t7 == t21) = true then (if t7 = true then (some (t23 == bt27.1 && (t24 == bt27.2.1))) else (some true)) else (some false)) else (if (t7 == false) = true then (if t7 = true then (some (t23 == bt27.1 && (t24 == bt27.2.1))) else (some true)) else (some false))) else (if bt27.2.2 = true then (if (false == t21) = true then (some true) else (some false)) else (if (false == false) = true then (some true) else (some false))))) = some r := H
        have A104 := Aside0.mk A1040
        clear A1040
        replace H := Option.bind_eq_some_iff.mp H
        obtain ⟨⟨t27, t28, t29⟩, A1050, H⟩ := H
        replace H : (if t25 = true then (if t29 = true then (if (t7 == t21) = true then (if t7 = true then (some (t23 == t27 && (t24 == t28))) else (some true)) else (some false)) else (if (t7 == false) = true then (if t7 = true then (some (t23 == t27 && (t24 == t28))) else (some true)) else (some false))) else (if t29 = true then (if (false == t21) = true then (some true) else (some false)) else (if (false == false) = true then (some true) else (some false)))) = some r := H
        have A105 := Aside0.mk A1050
        clear A1050
        refine (Classical.em (t25 = true)).elim (fun c106 => ?p_c106) (fun c106 => ?n_c106)
        case' n_c106 =>
         replace c106 := Bool.eq_false_iff.mpr c106
         subst c106
         have H1 : (if t29 = true then (if (false == t21) = true then (some true) else (some false)) else (if (false == false) = true then (some true) else (some false))) = some r := by rw [if_neg (show ¬ (false = true) by decide)] at H; exact H
         clear H
         have H := H1
         clear H1
         refine (Classical.em (t29 = true)).elim (fun c414 => ?p_c414) (fun c414 => ?n_c414)
         case' n_c414 =>
          replace c414 := Bool.eq_false_iff.mpr c414
          subst c414
          have H1 : (if (false == false) = true then (some true) else (some false)) = some r := by rw [if_neg (show ¬ (false = true) by decide)] at H; exact H
          clear H
          have H := H1
          clear H1
          refine (Classical.em ((false == false) = true)).elim (fun c516 => ?p_c516) (fun c516 => ?n_c516)
          case' n_c516 =>
           exact absurd rfl c516
          case' p_c516 =>
           rw [if_pos c516] at H
           have c516b0 : (false == false) = true := c516
           clear c516
           obtain rfl := Option.some.inj H
           have hnb517 := NB2_1.out
           have hnc517 := NB1_2.out
           have hnb518 := NB2_3.out
           have hnc518 := NB3_2.out
           have hnb519 := NB2_8.out
           have hnc519 := NB8_2.out
           have hnb520 := NB2_12.out
           have hnc520 := NB12_2.out
           have hnb521 := NB2_16.out
           have hnc521 := NB16_2.out
           have hcz522_0 : wc.cell? ⟨gb2, 0, none⟩ = some (.int .u32 a1_0) := (blk_cell BK2.out 0).trans rfl
           have hcz522_1 : wc.cell? ⟨gb2, 1, none⟩ = some (.int .u32 a1_1) := (blk_cell BK2.out 1).trans rfl
           have hfz522_0 := blk_frozen BK2.out 0
           have hfz522_1 := blk_frozen BK2.out 1
           have hnb523 := NB3_1.out
           have hnc523 := NB1_3.out
           have hnb524 := NB3_8.out
           have hnc524 := NB8_3.out
           have hnb525 := NB3_12.out
           have hnc525 := NB12_3.out
           have hnb526 := NB3_16.out
           have hnc526 := NB16_3.out
           have hcz527_0 : wc.cell? ⟨gb3, 0, none⟩ = some (.int .u32 a2_0) := (blk_cell BK3.out 0).trans rfl
           have hcz527_1 : wc.cell? ⟨gb3, 1, none⟩ = some (.int .u32 a2_1) := (blk_cell BK3.out 1).trans rfl
           have hfz527_0 := blk_frozen BK3.out 0
           have hfz527_1 := blk_frozen BK3.out 1
         case' p_c414 =>
          subst c414
          have H1 : (if (false == t21) = true then (some true) else (some false)) = some r := by rw [if_pos rfl] at H; exact H
          clear H
          have H := H1
          clear H1
          refine (Classical.em ((false == t21) = true)).elim (fun c415 => ?p_c415) (fun c415 => ?n_c415)
          case' n_c415 =>
           rw [if_neg c415] at H
           have c415b0 : (false == t21) = false := by simpa using c415
           (try (have c415b1 : decide (false = t21) = false := by simpa using c415))
           (try (have c415b2 : (false == t21) = false := by simpa using c415))
           (try (have c415b3 : ¬ (false = t21) := by simpa using c415))
           clear c415
           obtain rfl := Option.some.inj H
           have hnb466 := NB2_1.out
           have hnc466 := NB1_2.out
           have hnb467 := NB2_3.out
           have hnc467 := NB3_2.out
           have hnb468 := NB2_8.out
           have hnc468 := NB8_2.out
           have hnb469 := NB2_12.out
           have hnc469 := NB12_2.out
           have hnb470 := NB2_16.out
           have hnc470 := NB16_2.out
           have hcz471_0 : wc.cell? ⟨gb2, 0, none⟩ = some (.int .u32 a1_0) := (blk_cell BK2.out 0).trans rfl
           have hcz471_1 : wc.cell? ⟨gb2, 1, none⟩ = some (.int .u32 a1_1) := (blk_cell BK2.out 1).trans rfl
           have hfz471_0 := blk_frozen BK2.out 0
           have hfz471_1 := blk_frozen BK2.out 1
           have hnb472 := NB3_1.out
           have hnc472 := NB1_3.out
           have hnb473 := NB3_8.out
           have hnc473 := NB8_3.out
           have hnb474 := NB3_12.out
           have hnc474 := NB12_3.out
           have hnb475 := NB3_16.out
           have hnc475 := NB16_3.out
           have hcz476_0 : wc.cell? ⟨gb3, 0, none⟩ = some (.int .u32 a2_0) := (blk_cell BK3.out 0).trans rfl
           have hcz476_1 : wc.cell? ⟨gb3, 1, none⟩ = some (.int .u32 a2_1) := (blk_cell BK3.out 1).trans rfl
           have hfz476_0 := blk_frozen BK3.out 0
           have hfz476_1 := blk_frozen BK3.out 1
          case' p_c415 =>
           rw [if_pos c415] at H
           have c415b0 : (false == t21) = true := c415
           (try (have c415b1 : decide (false = t21) = true := by simpa using c415))
           (try (have c415b2 : (false == t21) = true := by simpa using c415))
           clear c415
           obtain rfl := Option.some.inj H
           have hnb416 := NB2_1.out
           have hnc416 := NB1_2.out
           have hnb417 := NB2_3.out
           have hnc417 := NB3_2.out
           have hnb418 := NB2_8.out
           have hnc418 := NB8_2.out
           have hnb419 := NB2_12.out
           have hnc419 := NB12_2.out
           have hnb420 := NB2_16.out
           have hnc420 := NB16_2.out
           have hcz421_0 : wc.cell? ⟨gb2, 0, none⟩ = some (.int .u32 a1_0) := (blk_cell BK2.out 0).trans rfl
           have hcz421_1 : wc.cell? ⟨gb2, 1, none⟩ = some (.int .u32 a1_1) := (blk_cell BK2.out 1).trans rfl
           have hfz421_0 := blk_frozen BK2.out 0
           have hfz421_1 := blk_frozen BK2.out 1
           have hnb422 := NB3_1.out
           have hnc422 := NB1_3.out
           have hnb423 := NB3_8.out
           have hnc423 := NB8_3.out
           have hnb424 := NB3_12.out
           have hnc424 := NB12_3.out
           have hnb425 := NB3_16.out
           have hnc425 := NB16_3.out
           have hcz426_0 : wc.cell? ⟨gb3, 0, none⟩ = some (.int .u32 a2_0) := (blk_cell BK3.out 0).trans rfl
           have hcz426_1 : wc.cell? ⟨gb3, 1, none⟩ = some (.int .u32 a2_1) := (blk_cell BK3.out 1).trans rfl
           have hfz426_0 := blk_frozen BK3.out 0
           have hfz426_1 := blk_frozen BK3.out 1
        case' p_c106 =>
         subst c106
         have H1 : (if t29 = true then (if (t7 == t21) = true then (if t7 = true then (some (t23 == t27 && (t24 == t28))) else (some true)) else (some false)) else (if (t7 == false) = true then (if t7 = true then (some (t23 == t27 && (t24 == t28))) else (some true)) else (some false))) = some r := by rw [if_pos rfl] at H; exact H
         clear H
         have H := H1
         clear H1
         refine (Classical.em (t29 = true)).elim (fun c107 => ?p_c107) (fun c107 => ?n_c107)
         case' n_c107 =>
          replace c107 := Bool.eq_false_iff.mpr c107
          subst c107
          have H1 : (if (t7 == false) = true then (if t7 = true then (some (t23 == t27 && (t24 == t28))) else (some true)) else (some false)) = some r := by rw [if_neg (show ¬ (false = true) by decide)] at H; exact H
          clear H
          have H := H1
          clear H1
          refine (Classical.em ((t7 == false) = true)).elim (fun c261 => ?p_c261) (fun c261 => ?n_c261)
          case' n_c261 =>
           rw [if_neg c261] at H
           have c261b0 : (t7 == false) = false := by simpa using c261
           (try (have c261b1 : decide (t7 = false) = false := by simpa using c261))
           (try (have c261b2 : (t7 == false) = false := by simpa using c261))
           (try (have c261b3 : ¬ (t7 = false) := by simpa using c261))
           clear c261
           obtain rfl := Option.some.inj H
           have hnb364 := NB2_1.out
           have hnc364 := NB1_2.out
           have hnb365 := NB2_3.out
           have hnc365 := NB3_2.out
           have hnb366 := NB2_8.out
           have hnc366 := NB8_2.out
           have hnb367 := NB2_12.out
           have hnc367 := NB12_2.out
           have hnb368 := NB2_16.out
           have hnc368 := NB16_2.out
           have hcz369_0 : wc.cell? ⟨gb2, 0, none⟩ = some (.int .u32 a1_0) := (blk_cell BK2.out 0).trans rfl
           have hcz369_1 : wc.cell? ⟨gb2, 1, none⟩ = some (.int .u32 a1_1) := (blk_cell BK2.out 1).trans rfl
           have hfz369_0 := blk_frozen BK2.out 0
           have hfz369_1 := blk_frozen BK2.out 1
           have hnb370 := NB3_1.out
           have hnc370 := NB1_3.out
           have hnb371 := NB3_8.out
           have hnc371 := NB8_3.out
           have hnb372 := NB3_12.out
           have hnc372 := NB12_3.out
           have hnb373 := NB3_16.out
           have hnc373 := NB16_3.out
           have hcz374_0 : wc.cell? ⟨gb3, 0, none⟩ = some (.int .u32 a2_0) := (blk_cell BK3.out 0).trans rfl
           have hcz374_1 : wc.cell? ⟨gb3, 1, none⟩ = some (.int .u32 a2_1) := (blk_cell BK3.out 1).trans rfl
           have hfz374_0 := blk_frozen BK3.out 0
           have hfz374_1 := blk_frozen BK3.out 1
          case' p_c261 =>
           rw [if_pos c261] at H
           have c261b0 : (t7 == false) = true := c261
           (try (have c261b1 : decide (t7 = false) = true := by simpa using c261))
           (try (have c261b2 : (t7 == false) = true := by simpa using c261))
           clear c261
           refine (Classical.em (t7 = true)).elim (fun c262 => ?p_c262) (fun c262 => ?n_c262)
           case' n_c262 =>
            replace c262 := Bool.eq_false_iff.mpr c262
            subst c262
            have H1 : (some true) = some r := by rw [if_neg (show ¬ (false = true) by decide)] at H; exact H
            clear H
            have H := H1
            clear H1
            obtain rfl := Option.some.inj H
            have hnb314 := NB2_1.out
            have hnc314 := NB1_2.out
            have hnb315 := NB2_3.out
            have hnc315 := NB3_2.out
            have hnb316 := NB2_8.out
            have hnc316 := NB8_2.out
            have hnb317 := NB2_12.out
            have hnc317 := NB12_2.out
            have hnb318 := NB2_16.out
            have hnc318 := NB16_2.out
            have hcz319_0 : wc.cell? ⟨gb2, 0, none⟩ = some (.int .u32 a1_0) := (blk_cell BK2.out 0).trans rfl
            have hcz319_1 : wc.cell? ⟨gb2, 1, none⟩ = some (.int .u32 a1_1) := (blk_cell BK2.out 1).trans rfl
            have hfz319_0 := blk_frozen BK2.out 0
            have hfz319_1 := blk_frozen BK2.out 1
            have hnb320 := NB3_1.out
            have hnc320 := NB1_3.out
            have hnb321 := NB3_8.out
            have hnc321 := NB8_3.out
            have hnb322 := NB3_12.out
            have hnc322 := NB12_3.out
            have hnb323 := NB3_16.out
            have hnc323 := NB16_3.out
            have hcz324_0 : wc.cell? ⟨gb3, 0, none⟩ = some (.int .u32 a2_0) := (blk_cell BK3.out 0).trans rfl
            have hcz324_1 : wc.cell? ⟨gb3, 1, none⟩ = some (.int .u32 a2_1) := (blk_cell BK3.out 1).trans rfl
            have hfz324_0 := blk_frozen BK3.out 0
            have hfz324_1 := blk_frozen BK3.out 1
           case' p_c262 =>
            subst c262
            have H1 : (some (t23 == t27 && (t24 == t28))) = some r := by rw [if_pos rfl] at H; exact H
            clear H
            have H := H1
            clear H1
            obtain rfl := Option.some.inj H
            have hnb263 := NB2_1.out
            have hnc263 := NB1_2.out
            have hnb264 := NB2_3.out
            have hnc264 := NB3_2.out
            have hnb265 := NB2_8.out
            have hnc265 := NB8_2.out
            have hnb266 := NB2_12.out
            have hnc266 := NB12_2.out
            have hnb267 := NB2_16.out
            have hnc267 := NB16_2.out
            have hcz268_0 : wc.cell? ⟨gb2, 0, none⟩ = some (.int .u32 a1_0) := (blk_cell BK2.out 0).trans rfl
            have hcz268_1 : wc.cell? ⟨gb2, 1, none⟩ = some (.int .u32 a1_1) := (blk_cell BK2.out 1).trans rfl
            have hfz268_0 := blk_frozen BK2.out 0
            have hfz268_1 := blk_frozen BK2.out 1
            have hnb269 := NB3_1.out
            have hnc269 := NB1_3.out
            have hnb270 := NB3_8.out
            have hnc270 := NB8_3.out
            have hnb271 := NB3_12.out
            have hnc271 := NB12_3.out
            have hnb272 := NB3_16.out
            have hnc272 := NB16_3.out
            have hcz273_0 : wc.cell? ⟨gb3, 0, none⟩ = some (.int .u32 a2_0) := (blk_cell BK3.out 0).trans rfl
            have hcz273_1 : wc.cell? ⟨gb3, 1, none⟩ = some (.int .u32 a2_1) := (blk_cell BK3.out 1).trans rfl
            have hfz273_0 := blk_frozen BK3.out 0
            have hfz273_1 := blk_frozen BK3.out 1
         case' p_c107 =>
          subst c107
          have H1 : (if (t7 == t21) = true then (if t7 = true then (some (t23 == t27 && (t24 == t28))) else (some true)) else (some false)) = some r := by rw [if_pos rfl] at H; exact H
          clear H
          have H := H1
          clear H1
          refine (Classical.em ((t7 == t21) = true)).elim (fun c108 => ?p_c108) (fun c108 => ?n_c108)
          case' n_c108 =>
           rw [if_neg c108] at H
           have c108b0 : (t7 == t21) = false := by simpa using c108
           (try (have c108b1 : decide (t7 = t21) = false := by simpa using c108))
           (try (have c108b2 : (t7 == t21) = false := by simpa using c108))
           (try (have c108b3 : ¬ (t7 = t21) := by simpa using c108))
           clear c108
           obtain rfl := Option.some.inj H
           have hnb211 := NB2_1.out
           have hnc211 := NB1_2.out
           have hnb212 := NB2_3.out
           have hnc212 := NB3_2.out
           have hnb213 := NB2_8.out
           have hnc213 := NB8_2.out
           have hnb214 := NB2_12.out
           have hnc214 := NB12_2.out
           have hnb215 := NB2_16.out
           have hnc215 := NB16_2.out
           have hcz216_0 : wc.cell? ⟨gb2, 0, none⟩ = some (.int .u32 a1_0) := (blk_cell BK2.out 0).trans rfl
           have hcz216_1 : wc.cell? ⟨gb2, 1, none⟩ = some (.int .u32 a1_1) := (blk_cell BK2.out 1).trans rfl
           have hfz216_0 := blk_frozen BK2.out 0
           have hfz216_1 := blk_frozen BK2.out 1
           have hnb217 := NB3_1.out
           have hnc217 := NB1_3.out
           have hnb218 := NB3_8.out
           have hnc218 := NB8_3.out
           have hnb219 := NB3_12.out
           have hnc219 := NB12_3.out
           have hnb220 := NB3_16.out
           have hnc220 := NB16_3.out
           have hcz221_0 : wc.cell? ⟨gb3, 0, none⟩ = some (.int .u32 a2_0) := (blk_cell BK3.out 0).trans rfl
           have hcz221_1 : wc.cell? ⟨gb3, 1, none⟩ = some (.int .u32 a2_1) := (blk_cell BK3.out 1).trans rfl
           have hfz221_0 := blk_frozen BK3.out 0
           have hfz221_1 := blk_frozen BK3.out 1
          case' p_c108 =>
           rw [if_pos c108] at H
           have c108b0 : (t7 == t21) = true := c108
           (try (have c108b1 : decide (t7 = t21) = true := by simpa using c108))
           (try (have c108b2 : (t7 == t21) = true := by simpa using c108))
           clear c108
           refine (Classical.em (t7 = true)).elim (fun c109 => ?p_c109) (fun c109 => ?n_c109)
           case' n_c109 =>
            replace c109 := Bool.eq_false_iff.mpr c109
            subst c109
            have H1 : (some true) = some r := by rw [if_neg (show ¬ (false = true) by decide)] at H; exact H
            clear H
            have H := H1
            clear H1
            obtain rfl := Option.some.inj H
            have hnb161 := NB2_1.out
            have hnc161 := NB1_2.out
            have hnb162 := NB2_3.out
            have hnc162 := NB3_2.out
            have hnb163 := NB2_8.out
            have hnc163 := NB8_2.out
            have hnb164 := NB2_12.out
            have hnc164 := NB12_2.out
            have hnb165 := NB2_16.out
            have hnc165 := NB16_2.out
            have hcz166_0 : wc.cell? ⟨gb2, 0, none⟩ = some (.int .u32 a1_0) := (blk_cell BK2.out 0).trans rfl
            have hcz166_1 : wc.cell? ⟨gb2, 1, none⟩ = some (.int .u32 a1_1) := (blk_cell BK2.out 1).trans rfl
            have hfz166_0 := blk_frozen BK2.out 0
            have hfz166_1 := blk_frozen BK2.out 1
            have hnb167 := NB3_1.out
            have hnc167 := NB1_3.out
            have hnb168 := NB3_8.out
            have hnc168 := NB8_3.out
            have hnb169 := NB3_12.out
            have hnc169 := NB12_3.out
            have hnb170 := NB3_16.out
            have hnc170 := NB16_3.out
            have hcz171_0 : wc.cell? ⟨gb3, 0, none⟩ = some (.int .u32 a2_0) := (blk_cell BK3.out 0).trans rfl
            have hcz171_1 : wc.cell? ⟨gb3, 1, none⟩ = some (.int .u32 a2_1) := (blk_cell BK3.out 1).trans rfl
            have hfz171_0 := blk_frozen BK3.out 0
            have hfz171_1 := blk_frozen BK3.out 1
           case' p_c109 =>
            subst c109
            have H1 : (some (t23 == t27 && (t24 == t28))) = some r := by rw [if_pos rfl] at H; exact H
            clear H
            have H := H1
            clear H1
            obtain rfl := Option.some.inj H
            have hnb110 := NB2_1.out
            have hnc110 := NB1_2.out
            have hnb111 := NB2_3.out
            have hnc111 := NB3_2.out
            have hnb112 := NB2_8.out
            have hnc112 := NB8_2.out
            have hnb113 := NB2_12.out
            have hnc113 := NB12_2.out
            have hnb114 := NB2_16.out
            have hnc114 := NB16_2.out
            have hcz115_0 : wc.cell? ⟨gb2, 0, none⟩ = some (.int .u32 a1_0) := (blk_cell BK2.out 0).trans rfl
            have hcz115_1 : wc.cell? ⟨gb2, 1, none⟩ = some (.int .u32 a1_1) := (blk_cell BK2.out 1).trans rfl
            have hfz115_0 := blk_frozen BK2.out 0
            have hfz115_1 := blk_frozen BK2.out 1
            have hnb116 := NB3_1.out
            have hnc116 := NB1_3.out
            have hnb117 := NB3_8.out
            have hnc117 := NB8_3.out
            have hnb118 := NB3_12.out
            have hnc118 := NB12_3.out
            have hnb119 := NB3_16.out
            have hnc119 := NB16_3.out
            have hcz120_0 : wc.cell? ⟨gb3, 0, none⟩ = some (.int .u32 a2_0) := (blk_cell BK3.out 0).trans rfl
            have hcz120_1 : wc.cell? ⟨gb3, 1, none⟩ = some (.int .u32 a2_1) := (blk_cell BK3.out 1).trans rfl
            have hfz120_0 := blk_frozen BK3.out 0
            have hfz120_1 := blk_frozen BK3.out 1
        all_goals go_wp2_with (first | ((with_reducible refine gate_callee (f := 9) rfl ?_); refine goesL_ (some 64) rfl rfl Try.func9 (by kernel_rfl) rfl #[.agg #[.int .u32 a1_0, .int .u32 a1_1], .agg #[.int .u32 a2_0, .int .u32 a2_1]] rfl (by (try simp only [List.map_toArray, List.map_cons, List.map_nil]); first | done | rfl | (simp only [List.length_drop, List.length_take]; rfl)) ?_; (with_reducible refine (plane_Meet.calls a1_0 a1_1 a2_0 a2_1 t19 t20 t21 _ A103.out).mono ?_); rintro e w274 ⟨rfl, hb⟩; refine ⟨_, rfl, ?_⟩; have n0_ := Aside0.mk (blk_below (g := gb1) (o := .cells #[.int .u32 a0_0, .int .u32 a0_1] 24 (0, 0)) (by (with_reducible repeat (first | refine blk_drewN ?_ _ | refine blk_drew ?_ | refine blk_alloc ?_ _)); exact BK1.out) hb); have n1_ := Aside0.mk (blk_below (g := gb2) (o := .cells #[.int .u32 a1_0, .int .u32 a1_1] 24 (0, 0)) (by (with_reducible repeat (first | refine blk_drewN ?_ _ | refine blk_drew ?_ | refine blk_alloc ?_ _)); exact BK2.out) hb); have n2_ := Aside0.mk (blk_below (g := gb3) (o := .cells #[.int .u32 a2_0, .int .u32 a2_1] 24 (0, 0)) (by (with_reducible repeat (first | refine blk_drewN ?_ _ | refine blk_drew ?_ | refine blk_alloc ?_ _)); exact BK3.out) hb); have n3_ := Aside0.mk (blk_below (g := gb8) (o := .cells #[.int .u32 t5, .int .u32 t6] 24 (0, 0)) (by (with_reducible repeat (first | refine blk_drewN ?_ _ | refine blk_drew ?_ | refine blk_alloc ?_ _)); exact BK8.out) hb); have n4_ := Aside0.mk (blk_below (g := gb12) (o := .cells #[.int .u32 t9, .int .u32 t10] 24 (0, 0)) (by (with_reducible repeat (first | refine blk_drewN ?_ _ | refine blk_drew ?_ | refine blk_alloc ?_ _)); exact BK12.out) hb); have n5_ := Aside0.mk (blk_below (g := gb16) (o := .cells #[.int .u32 t13, .int .u32 t14] 24 (0, 0)) (by (with_reducible repeat (first | refine blk_drewN ?_ _ | refine blk_drew ?_ | refine blk_alloc ?_ _)); exact BK16.out) hb); have n6_ := Aside0.mk (below_step (by repeat (first | (with_reducible first | exact HB.out | apply below_alloc | apply pw_below_drewN | apply below_drew1 | refine below_set ?_ GE1.out | refine below_set ?_ GE2.out | refine below_set ?_ GE3.out | refine below_set ?_ GE8.out | refine below_set ?_ GE12.out | refine below_set ?_ GE16.out) | exact HB.out)) hb); clear BK1; clear BK2; clear BK3; clear BK8; clear BK12; clear BK16; clear HB; have BK1 := n0_; have BK2 := n1_; have BK3 := n2_; have BK8 := n3_; have BK12 := n4_; have BK16 := n5_; have HB := n6_; clear n0_ n1_ n2_ n3_ n4_ n5_ n6_; (try clear hb); (try clear hb2); (try clear hk); (try clear hi)) | ((with_reducible refine gate_dst (N := 13) rfl ?_); refine box_event ?hg (N := 13) ?hd (cs := #[.int .u32 0, .int .u32 0]) (t := 24) ?hr ?_; (case hd => rfl); (case hg => rfl); (case hr => first | (go_simp; done) | (go_simp; rfl)); intro gb22 hg w275 hbox hb; have n0_ := Aside0.mk (blk_below (g := gb1) (o := .cells #[.int .u32 a0_0, .int .u32 a0_1] 24 (0, 0)) (by (with_reducible repeat (first | refine blk_drewN ?_ _ | refine blk_drew ?_ | refine blk_alloc ?_ _)); exact BK1.out) hb); have n1_ := Aside0.mk (blk_below (g := gb2) (o := .cells #[.int .u32 a1_0, .int .u32 a1_1] 24 (0, 0)) (by (with_reducible repeat (first | refine blk_drewN ?_ _ | refine blk_drew ?_ | refine blk_alloc ?_ _)); exact BK2.out) hb); have n2_ := Aside0.mk (blk_below (g := gb3) (o := .cells #[.int .u32 a2_0, .int .u32 a2_1] 24 (0, 0)) (by (with_reducible repeat (first | refine blk_drewN ?_ _ | refine blk_drew ?_ | refine blk_alloc ?_ _)); exact BK3.out) hb); have n3_ := Aside0.mk (blk_below (g := gb8) (o := .cells #[.int .u32 t5, .int .u32 t6] 24 (0, 0)) (by (with_reducible repeat (first | refine blk_drewN ?_ _ | refine blk_drew ?_ | refine blk_alloc ?_ _)); exact BK8.out) hb); have n4_ := Aside0.mk (blk_below (g := gb12) (o := .cells #[.int .u32 t9, .int .u32 t10] 24 (0, 0)) (by (with_reducible repeat (first | refine blk_drewN ?_ _ | refine blk_drew ?_ | refine blk_alloc ?_ _)); exact BK12.out) hb); have n5_ := Aside0.mk (blk_below (g := gb16) (o := .cells #[.int .u32 t13, .int .u32 t14] 24 (0, 0)) (by (with_reducible repeat (first | refine blk_drewN ?_ _ | refine blk_drew ?_ | refine blk_alloc ?_ _)); exact BK16.out) hb); have n6_ := Aside0.mk (below_step (by repeat (first | (with_reducible first | exact HB.out | apply below_alloc | apply pw_below_drewN | apply below_drew1 | refine below_set ?_ GE1.out | refine below_set ?_ GE2.out | refine below_set ?_ GE3.out | refine below_set ?_ GE8.out | refine below_set ?_ GE12.out | refine below_set ?_ GE16.out) | exact HB.out)) hb); have n7_ := Aside0.mk (hbox); have n8_ := Aside0.mk ((by rw [hg]; exact (below_size (by repeat (first | (with_reducible first | exact HB.out | apply below_alloc | apply pw_below_drewN | apply below_drew1 | refine below_set ?_ GE1.out | refine below_set ?_ GE2.out | refine below_set ?_ GE3.out | refine below_set ?_ GE8.out | refine below_set ?_ GE12.out | refine below_set ?_ GE16.out) | exact HB.out))) : w.heap.size ≤ gb22)); have n9_ := Aside0.mk ((by rw [hg]; exact (below_size (by repeat (first | (with_reducible first | exact HB.out | apply below_alloc | apply pw_below_drewN | apply below_drew1 | refine below_set ?_ GE1.out | refine below_set ?_ GE2.out | refine below_set ?_ GE3.out | refine below_set ?_ GE8.out | refine below_set ?_ GE12.out | refine below_set ?_ GE16.out) | exact HB.out))) : w.heap.size ≤ gb22)); have n10_ := Aside0.mk ((by rw [hg]; exact Nat.ne_of_lt (blk_lt (g := gb1) (o := .cells #[.int .u32 a0_0, .int .u32 a0_1] 24 (0, 0)) (by (with_reducible repeat (first | refine blk_drewN ?_ _ | refine blk_drew ?_ | refine blk_alloc ?_ _)); exact BK1.out)) : gb1 ≠ gb22)); have n11_ := Aside0.mk ((by rw [hg]; exact Nat.ne_of_gt (blk_lt (g := gb1) (o := .cells #[.int .u32 a0_0, .int .u32 a0_1] 24 (0, 0)) (by (with_reducible repeat (first | refine blk_drewN ?_ _ | refine blk_drew ?_ | refine blk_alloc ?_ _)); exact BK1.out)) : gb22 ≠ gb1)); have n12_ := Aside0.mk ((by rw [hg]; exact Nat.ne_of_lt (blk_lt (g := gb2) (o := .cells #[.int .u32 a1_0, .int .u32 a1_1] 24 (0, 0)) (by (with_reducible repeat (first | refine blk_drewN ?_ _ | refine blk_drew ?_ | refine blk_alloc ?_ _)); exact BK2.out)) : gb2 ≠ gb22)); have n13_ := Aside0.mk ((by rw [hg]; exact Nat.ne_of_gt (blk_lt (g := gb2) (o := .cells #[.int .u32 a1_0, .int .u32 a1_1] 24 (0, 0)) (by (with_reducible repeat (first | refine blk_drewN ?_ _ | refine blk_drew ?_ | refine blk_alloc ?_ _)); exact BK2.out)) : gb22 ≠ gb2)); have n14_ := Aside0.mk ((by rw [hg]; exact Nat.ne_of_lt (blk_lt (g := gb3) (o := .cells #[.int .u32 a2_0, .int .u32 a2_1] 24 (0, 0)) (by (with_reducible repeat (first | refine blk_drewN ?_ _ | refine blk_drew ?_ | refine blk_alloc ?_ _)); exact BK3.out)) : gb3 ≠ gb22)); have n15_ := Aside0.mk ((by rw [hg]; exact Nat.ne_of_gt (blk_lt (g := gb3) (o := .cells #[.int .u32 a2_0, .int .u32 a2_1] 24 (0, 0)) (by (with_reducible repeat (first | refine blk_drewN ?_ _ | refine blk_drew ?_ | refine blk_alloc ?_ _)); exact BK3.out)) : gb22 ≠ gb3)); have n16_ := Aside0.mk ((by rw [hg]; exact Nat.ne_of_lt (blk_lt (g := gb8) (o := .cells #[.int .u32 t5, .int .u32 t6] 24 (0, 0)) (by (with_reducible repeat (first | refine blk_drewN ?_ _ | refine blk_drew ?_ | refine blk_alloc ?_ _)); exact BK8.out)) : gb8 ≠ gb22)); have n17_ := Aside0.mk ((by rw [hg]; exact Nat.ne_of_gt (blk_lt (g := gb8) (o := .cells #[.int .u32 t5, .int .u32 t6] 24 (0, 0)) (by (with_reducible repeat (first | refine blk_drewN ?_ _ | refine blk_drew ?_ | refine blk_alloc ?_ _)); exact BK8.out)) : gb22 ≠ gb8)); have n18_ := Aside0.mk ((by rw [hg]; exact Nat.ne_of_lt (blk_lt (g := gb12) (o := .cells #[.int .u32 t9, .int .u32 t10] 24 (0, 0)) (by (with_reducible repeat (first | refine blk_drewN ?_ _ | refine blk_drew ?_ | refine blk_alloc ?_ _)); exact BK12.out)) : gb12 ≠ gb22)); have n19_ := Aside0.mk ((by rw [hg]; exact Nat.ne_of_gt (blk_lt (g := gb12) (o := .cells #[.int .u32 t9, .int .u32 t10] 24 (0, 0)) (by (with_reducible repeat (first | refine blk_drewN ?_ _ | refine blk_drew ?_ | refine blk_alloc ?_ _)); exact BK12.out)) : gb22 ≠ gb12)); have n20_ := Aside0.mk ((by rw [hg]; exact Nat.ne_of_lt (blk_lt (g := gb16) (o := .cells #[.int .u32 t13, .int .u32 t14] 24 (0, 0)) (by (with_reducible repeat (first | refine blk_drewN ?_ _ | refine blk_drew ?_ | refine blk_alloc ?_ _)); exact BK16.out)) : gb16 ≠ gb22)); have n21_ := Aside0.mk ((by rw [hg]; exact Nat.ne_of_gt (blk_lt (g := gb16) (o := .cells #[.int .u32 t13, .int .u32 t14] 24 (0, 0)) (by (with_reducible repeat (first | refine blk_drewN ?_ _ | refine blk_drew ?_ | refine blk_alloc ?_ _)); exact BK16.out)) : gb22 ≠ gb16)); clear BK1; clear BK2; clear BK3; clear BK8; clear BK12; clear BK16; clear HB; have BK1 := n0_; have BK2 := n1_; have BK3 := n2_; have BK8 := n3_; have BK12 := n4_; have BK16 := n5_; have HB := n6_; have BK22 := n7_; have GW22 := n8_; have GE22 := n9_; have NB1_22 := n10_; have NB22_1 := n11_; have NB2_22 := n12_; have NB22_2 := n13_; have NB3_22 := n14_; have NB22_3 := n15_; have NB8_22 := n16_; have NB22_8 := n17_; have NB12_22 := n18_; have NB22_12 := n19_; have NB16_22 := n20_; have NB22_16 := n21_; clear n0_ n1_ n2_ n3_ n4_ n5_ n6_ n7_ n8_ n9_ n10_ n11_ n12_ n13_ n14_ n15_ n16_ n17_ n18_ n19_ n20_ n21_; clear hb hbox hg; have hnb276 := NB22_1.out; have hnc276 := NB1_22.out; have hnb277 := NB22_2.out; have hnc277 := NB2_22.out; have hnb278 := NB22_3.out; have hnc278 := NB3_22.out; have hnb279 := NB22_8.out; have hnc279 := NB8_22.out; have hnb280 := NB22_12.out; have hnc280 := NB12_22.out; have hnb281 := NB22_16.out; have hnc281 := NB16_22.out; have hcz282_0 : w275.cell? ⟨gb22, 0, none⟩ = some (.int .u32 0) := (blk_cell BK22.out 0).trans rfl; have hcz282_1 : w275.cell? ⟨gb22, 1, none⟩ = some (.int .u32 0) := (blk_cell BK22.out 1).trans rfl; have hfz282_0 := blk_frozen BK22.out 0; have hfz282_1 := blk_frozen BK22.out 1; have hnb283 := NB8_1.out; have hnc283 := NB1_8.out; have hnb284 := NB8_12.out; have hnc284 := NB12_8.out; have hnb285 := NB8_16.out; have hnc285 := NB16_8.out; have hcz286_0 : w275.cell? ⟨gb8, 0, none⟩ = some (.int .u32 t5) := (blk_cell BK8.out 0).trans rfl; have hcz286_1 : w275.cell? ⟨gb8, 1, none⟩ = some (.int .u32 t6) := (blk_cell BK8.out 1).trans rfl; have hfz286_0 := blk_frozen BK8.out 0; have hfz286_1 := blk_frozen BK8.out 1; have hcz287_0 : w275.cell? ⟨gb3, 0, none⟩ = some (.int .u32 a2_0) := (blk_cell BK3.out 0).trans rfl; have hcz287_1 : w275.cell? ⟨gb3, 1, none⟩ = some (.int .u32 a2_1) := (blk_cell BK3.out 1).trans rfl; have hfz287_0 := blk_frozen BK3.out 0; have hfz287_1 := blk_frozen BK3.out 1) | ((with_reducible refine gate_callee (f := 9) rfl ?_); refine goesL_ (some 70) rfl rfl Try.func9 (by kernel_rfl) rfl #[.agg #[.int .u32 t5, .int .u32 t6], .agg #[.int .u32 a2_0, .int .u32 a2_1]] rfl (by (try simp only [List.map_toArray, List.map_cons, List.map_nil]); first | done | rfl | (simp only [List.length_drop, List.length_take]; rfl)) ?_; (with_reducible refine (plane_Meet.calls t5 t6 a2_0 a2_1 t23 t24 _ _ A104.out).mono ?_); rintro e w288 ⟨rfl, hb⟩; refine ⟨_, rfl, ?_⟩; have n0_ := Aside0.mk (blk_below (g := gb1) (o := .cells #[.int .u32 a0_0, .int .u32 a0_1] 24 (0, 0)) (by (with_reducible repeat (first | refine blk_drewN ?_ _ | refine blk_drew ?_ | refine blk_alloc ?_ _)); refine blk_far ?_ NB1_22.out _; (with_reducible repeat (first | refine blk_drewN ?_ _ | refine blk_drew ?_ | refine blk_alloc ?_ _)); refine blk_far ?_ NB1_22.out _; (with_reducible repeat (first | refine blk_drewN ?_ _ | refine blk_drew ?_ | refine blk_alloc ?_ _)); exact BK1.out) hb); have n1_ := Aside0.mk (blk_below (g := gb2) (o := .cells #[.int .u32 a1_0, .int .u32 a1_1] 24 (0, 0)) (by (with_reducible repeat (first | refine blk_drewN ?_ _ | refine blk_drew ?_ | refine blk_alloc ?_ _)); refine blk_far ?_ NB2_22.out _; (with_reducible repeat (first | refine blk_drewN ?_ _ | refine blk_drew ?_ | refine blk_alloc ?_ _)); refine blk_far ?_ NB2_22.out _; (with_reducible repeat (first | refine blk_drewN ?_ _ | refine blk_drew ?_ | refine blk_alloc ?_ _)); exact BK2.out) hb); have n2_ := Aside0.mk (blk_below (g := gb3) (o := .cells #[.int .u32 a2_0, .int .u32 a2_1] 24 (0, 0)) (by (with_reducible repeat (first | refine blk_drewN ?_ _ | refine blk_drew ?_ | refine blk_alloc ?_ _)); refine blk_far ?_ NB3_22.out _; (with_reducible repeat (first | refine blk_drewN ?_ _ | refine blk_drew ?_ | refine blk_alloc ?_ _)); refine blk_far ?_ NB3_22.out _; (with_reducible repeat (first | refine blk_drewN ?_ _ | refine blk_drew ?_ | refine blk_alloc ?_ _)); exact BK3.out) hb); have n3_ := Aside0.mk (blk_below (g := gb8) (o := .cells #[.int .u32 t5, .int .u32 t6] 24 (0, 0)) (by (with_reducible repeat (first | refine blk_drewN ?_ _ | refine blk_drew ?_ | refine blk_alloc ?_ _)); refine blk_far ?_ NB8_22.out _; (with_reducible repeat (first | refine blk_drewN ?_ _ | refine blk_drew ?_ | refine blk_alloc ?_ _)); refine blk_far ?_ NB8_22.out _; (with_reducible repeat (first | refine blk_drewN ?_ _ | refine blk_drew ?_ | refine blk_alloc ?_ _)); exact BK8.out) hb); have n4_ := Aside0.mk (blk_below (g := gb12) (o := .cells #[.int .u32 t9, .int .u32 t10] 24 (0, 0)) (by (with_reducible repeat (first | refine blk_drewN ?_ _ | refine blk_drew ?_ | refine blk_alloc ?_ _)); refine blk_far ?_ NB12_22.out _; (with_reducible repeat (first | refine blk_drewN ?_ _ | refine blk_drew ?_ | refine blk_alloc ?_ _)); refine blk_far ?_ NB12_22.out _; (with_reducible repeat (first | refine blk_drewN ?_ _ | refine blk_drew ?_ | refine blk_alloc ?_ _)); exact BK12.out) hb); have n5_ := Aside0.mk (blk_below (g := gb16) (o := .cells #[.int .u32 t13, .int .u32 t14] 24 (0, 0)) (by (with_reducible repeat (first | refine blk_drewN ?_ _ | refine blk_drew ?_ | refine blk_alloc ?_ _)); refine blk_far ?_ NB16_22.out _; (with_reducible repeat (first | refine blk_drewN ?_ _ | refine blk_drew ?_ | refine blk_alloc ?_ _)); refine blk_far ?_ NB16_22.out _; (with_reducible repeat (first | refine blk_drewN ?_ _ | refine blk_drew ?_ | refine blk_alloc ?_ _)); exact BK16.out) hb); have n6_ := Aside0.mk (blk_below (g := gb22) (o := .cells #[.int .u32 t19, .int .u32 t20] 24 (0, 0)) (by (with_reducible repeat (first | refine blk_drewN ?_ _ | refine blk_drew ?_ | refine blk_alloc ?_ _)); refine blk_put (cs := #[.int .u32 t19, .int .u32 0]) ?_ 1 _ rfl; (with_reducible repeat (first | refine blk_drewN ?_ _ | refine blk_drew ?_ | refine blk_alloc ?_ _)); refine blk_put (cs := #[.int .u32 0, .int .u32 0]) ?_ 0 _ rfl; (with_reducible repeat (first | refine blk_drewN ?_ _ | refine blk_drew ?_ | refine blk_alloc ?_ _)); exact BK22.out) hb); have n7_ := Aside0.mk (below_step (by repeat (first | (with_reducible first | exact HB.out | apply below_alloc | apply pw_below_drewN | apply below_drew1 | refine below_set ?_ GE1.out | refine below_set ?_ GE2.out | refine below_set ?_ GE3.out | refine below_set ?_ GE8.out | refine below_set ?_ GE12.out | refine below_set ?_ GE16.out | refine below_set ?_ GE22.out) | exact HB.out)) hb); clear BK1; clear BK2; clear BK3; clear BK8; clear BK12; clear BK16; clear BK22; clear HB; have BK1 := n0_; have BK2 := n1_; have BK3 := n2_; have BK8 := n3_; have BK12 := n4_; have BK16 := n5_; have BK22 := n6_; have HB := n7_; clear n0_ n1_ n2_ n3_ n4_ n5_ n6_ n7_; (try clear hb); (try clear hb2); (try clear hk); (try clear hi)) | ((with_reducible refine gate_dst (N := 15) rfl ?_); refine box_event ?hg (N := 15) ?hd (cs := #[.int .u32 0, .int .u32 0]) (t := 24) ?hr ?_; (case hd => rfl); (case hg => rfl); (case hr => first | (go_simp; done) | (go_simp; rfl)); intro gb26 hg w289 hbox hb; have n0_ := Aside0.mk (blk_below (g := gb1) (o := .cells #[.int .u32 a0_0, .int .u32 a0_1] 24 (0, 0)) (by (with_reducible repeat (first | refine blk_drewN ?_ _ | refine blk_drew ?_ | refine blk_alloc ?_ _)); exact BK1.out) hb); have n1_ := Aside0.mk (blk_below (g := gb2) (o := .cells #[.int .u32 a1_0, .int .u32 a1_1] 24 (0, 0)) (by (with_reducible repeat (first | refine blk_drewN ?_ _ | refine blk_drew ?_ | refine blk_alloc ?_ _)); exact BK2.out) hb); have n2_ := Aside0.mk (blk_below (g := gb3) (o := .cells #[.int .u32 a2_0, .int .u32 a2_1] 24 (0, 0)) (by (with_reducible repeat (first | refine blk_drewN ?_ _ | refine blk_drew ?_ | refine blk_alloc ?_ _)); exact BK3.out) hb); have n3_ := Aside0.mk (blk_below (g := gb8) (o := .cells #[.int .u32 t5, .int .u32 t6] 24 (0, 0)) (by (with_reducible repeat (first | refine blk_drewN ?_ _ | refine blk_drew ?_ | refine blk_alloc ?_ _)); exact BK8.out) hb); have n4_ := Aside0.mk (blk_below (g := gb12) (o := .cells #[.int .u32 t9, .int .u32 t10] 24 (0, 0)) (by (with_reducible repeat (first | refine blk_drewN ?_ _ | refine blk_drew ?_ | refine blk_alloc ?_ _)); exact BK12.out) hb); have n5_ := Aside0.mk (blk_below (g := gb16) (o := .cells #[.int .u32 t13, .int .u32 t14] 24 (0, 0)) (by (with_reducible repeat (first | refine blk_drewN ?_ _ | refine blk_drew ?_ | refine blk_alloc ?_ _)); exact BK16.out) hb); have n6_ := Aside0.mk (blk_below (g := gb22) (o := .cells #[.int .u32 t19, .int .u32 t20] 24 (0, 0)) (by (with_reducible repeat (first | refine blk_drewN ?_ _ | refine blk_drew ?_ | refine blk_alloc ?_ _)); exact BK22.out) hb); have n7_ := Aside0.mk (below_step (by repeat (first | (with_reducible first | exact HB.out | apply below_alloc | apply pw_below_drewN | apply below_drew1 | refine below_set ?_ GE1.out | refine below_set ?_ GE2.out | refine below_set ?_ GE3.out | refine below_set ?_ GE8.out | refine below_set ?_ GE12.out | refine below_set ?_ GE16.out | refine below_set ?_ GE22.out) | exact HB.out)) hb); have n8_ := Aside0.mk (hbox); have n9_ := Aside0.mk ((by rw [hg]; exact (below_size (by repeat (first | (with_reducible first | exact HB.out | apply below_alloc | apply pw_below_drewN | apply below_drew1 | refine below_set ?_ GE1.out | refine below_set ?_ GE2.out | refine below_set ?_ GE3.out | refine below_set ?_ GE8.out | refine below_set ?_ GE12.out | refine below_set ?_ GE16.out | refine below_set ?_ GE22.out) | exact HB.out))) : w.heap.size ≤ gb26)); have n10_ := Aside0.mk ((by rw [hg]; exact (below_size (by repeat (first | (with_reducible first | exact HB.out | apply below_alloc | apply pw_below_drewN | apply below_drew1 | refine below_set ?_ GE1.out | refine below_set ?_ GE2.out | refine below_set ?_ GE3.out | refine below_set ?_ GE8.out | refine below_set ?_ GE12.out | refine below_set ?_ GE16.out | refine below_set ?_ GE22.out) | exact HB.out))) : w.heap.size ≤ gb26)); have n11_ := Aside0.mk ((by rw [hg]; exact Nat.ne_of_lt (blk_lt (g := gb1) (o := .cells #[.int .u32 a0_0, .int .u32 a0_1] 24 (0, 0)) (by (with_reducible repeat (first | refine blk_drewN ?_ _ | refine blk_drew ?_ | refine blk_alloc ?_ _)); exact BK1.out)) : gb1 ≠ gb26)); have n12_ := Aside0.mk ((by rw [hg]; exact Nat.ne_of_gt (blk_lt (g := gb1) (o := .cells #[.int .u32 a0_0, .int .u32 a0_1] 24 (0, 0)) (by (with_reducible repeat (first | refine blk_drewN ?_ _ | refine blk_drew ?_ | refine blk_alloc ?_ _)); exact BK1.out)) : gb26 ≠ gb1)); have n13_ := Aside0.mk ((by rw [hg]; exact Nat.ne_of_lt (blk_lt (g := gb2) (o := .cells #[.int .u32 a1_0, .int .u32 a1_1] 24 (0, 0)) (by (with_reducible repeat (first | refine blk_drewN ?_ _ | refine blk_drew ?_ | refine blk_alloc ?_ _)); exact BK2.out)) : gb2 ≠ gb26)); have n14_ := Aside0.mk ((by rw [hg]; exact Nat.ne_of_gt (blk_lt (g := gb2) (o := .cells #[.int .u32 a1_0, .int .u32 a1_1] 24 (0, 0)) (by (with_reducible repeat (first | refine blk_drewN ?_ _ | refine blk_drew ?_ | refine blk_alloc ?_ _)); exact BK2.out)) : gb26 ≠ gb2)); have n15_ := Aside0.mk ((by rw [hg]; exact Nat.ne_of_lt (blk_lt (g := gb3) (o := .cells #[.int .u32 a2_0, .int .u32 a2_1] 24 (0, 0)) (by (with_reducible repeat (first | refine blk_drewN ?_ _ | refine blk_drew ?_ | refine blk_alloc ?_ _)); exact BK3.out)) : gb3 ≠ gb26)); have n16_ := Aside0.mk ((by rw [hg]; exact Nat.ne_of_gt (blk_lt (g := gb3) (o := .cells #[.int .u32 a2_0, .int .u32 a2_1] 24 (0, 0)) (by (with_reducible repeat (first | refine blk_drewN ?_ _ | refine blk_drew ?_ | refine blk_alloc ?_ _)); exact BK3.out)) : gb26 ≠ gb3)); have n17_ := Aside0.mk ((by rw [hg]; exact Nat.ne_of_lt (blk_lt (g := gb8) (o := .cells #[.int .u32 t5, .int .u32 t6] 24 (0, 0)) (by (with_reducible repeat (first | refine blk_drewN ?_ _ | refine blk_drew ?_ | refine blk_alloc ?_ _)); exact BK8.out)) : gb8 ≠ gb26)); have n18_ := Aside0.mk ((by rw [hg]; exact Nat.ne_of_gt (blk_lt (g := gb8) (o := .cells #[.int .u32 t5, .int .u32 t6] 24 (0, 0)) (by (with_reducible repeat (first | refine blk_drewN ?_ _ | refine blk_drew ?_ | refine blk_alloc ?_ _)); exact BK8.out)) : gb26 ≠ gb8)); have n19_ := Aside0.mk ((by rw [hg]; exact Nat.ne_of_lt (blk_lt (g := gb12) (o := .cells #[.int .u32 t9, .int .u32 t10] 24 (0, 0)) (by (with_reducible repeat (first | refine blk_drewN ?_ _ | refine blk_drew ?_ | refine blk_alloc ?_ _)); exact BK12.out)) : gb12 ≠ gb26)); have n20_ := Aside0.mk ((by rw [hg]; exact Nat.ne_of_gt (blk_lt (g := gb12) (o := .cells #[.int .u32 t9, .int .u32 t10] 24 (0, 0)) (by (with_reducible repeat (first | refine blk_drewN ?_ _ | refine blk_drew ?_ | refine blk_alloc ?_ _)); exact BK12.out)) : gb26 ≠ gb12)); have n21_ := Aside0.mk ((by rw [hg]; exact Nat.ne_of_lt (blk_lt (g := gb16) (o := .cells #[.int .u32 t13, .int .u32 t14] 24 (0, 0)) (by (with_reducible repeat (first | refine blk_drewN ?_ _ | refine blk_drew ?_ | refine blk_alloc ?_ _)); exact BK16.out)) : gb16 ≠ gb26)); have n22_ := Aside0.mk ((by rw [hg]; exact Nat.ne_of_gt (blk_lt (g := gb16) (o := .cells #[.int .u32 t13, .int .u32 t14] 24 (0, 0)) (by (with_reducible repeat (first | refine blk_drewN ?_ _ | refine blk_drew ?_ | refine blk_alloc ?_ _)); exact BK16.out)) : gb26 ≠ gb16)); have n23_ := Aside0.mk ((by rw [hg]; exact Nat.ne_of_lt (blk_lt (g := gb22) (o := .cells #[.int .u32 t19, .int .u32 t20] 24 (0, 0)) (by (with_reducible repeat (first | refine blk_drewN ?_ _ | refine blk_drew ?_ | refine blk_alloc ?_ _)); exact BK22.out)) : gb22 ≠ gb26)); have n24_ := Aside0.mk ((by rw [hg]; exact Nat.ne_of_gt (blk_lt (g := gb22) (o := .cells #[.int .u32 t19, .int .u32 t20] 24 (0, 0)) (by (with_reducible repeat (first | refine blk_drewN ?_ _ | refine blk_drew ?_ | refine blk_alloc ?_ _)); exact BK22.out)) : gb26 ≠ gb22)); clear BK1; clear BK2; clear BK3; clear BK8; clear BK12; clear BK16; clear BK22; clear HB; have BK1 := n0_; have BK2 := n1_; have BK3 := n2_; have BK8 := n3_; have BK12 := n4_; have BK16 := n5_; have BK22 := n6_; have HB := n7_; have BK26 := n8_; have GW26 := n9_; have GE26 := n10_; have NB1_26 := n11_; have NB26_1 := n12_; have NB2_26 := n13_; have NB26_2 := n14_; have NB3_26 := n15_; have NB26_3 := n16_; have NB8_26 := n17_; have NB26_8 := n18_; have NB12_26 := n19_; have NB26_12 := n20_; have NB16_26 := n21_; have NB26_16 := n22_; have NB22_26 := n23_; have NB26_22 := n24_; clear n0_ n1_ n2_ n3_ n4_ n5_ n6_ n7_ n8_ n9_ n10_ n11_ n12_ n13_ n14_ n15_ n16_ n17_ n18_ n19_ n20_ n21_ n22_ n23_ n24_; clear hb hbox hg; have hnb290 := NB26_1.out; have hnc290 := NB1_26.out; have hnb291 := NB26_2.out; have hnc291 := NB2_26.out; have hnb292 := NB26_3.out; have hnc292 := NB3_26.out; have hnb293 := NB26_8.out; have hnc293 := NB8_26.out; have hnb294 := NB26_12.out; have hnc294 := NB12_26.out; have hnb295 := NB26_16.out; have hnc295 := NB16_26.out; have hnb296 := NB26_22.out; have hnc296 := NB22_26.out; have hcz297_0 : w289.cell? ⟨gb26, 0, none⟩ = some (.int .u32 0) := (blk_cell BK26.out 0).trans rfl; have hcz297_1 : w289.cell? ⟨gb26, 1, none⟩ = some (.int .u32 0) := (blk_cell BK26.out 1).trans rfl; have hfz297_0 := blk_frozen BK26.out 0; have hfz297_1 := blk_frozen BK26.out 1; have hnb298 := NB1_12.out; have hnc298 := NB12_1.out; have hnb299 := NB1_16.out; have hnc299 := NB16_1.out; have hcz300_0 : w289.cell? ⟨gb1, 0, none⟩ = some (.int .u32 a0_0) := (blk_cell BK1.out 0).trans rfl; have hcz300_1 : w289.cell? ⟨gb1, 1, none⟩ = some (.int .u32 a0_1) := (blk_cell BK1.out 1).trans rfl; have hfz300_0 := blk_frozen BK1.out 0; have hfz300_1 := blk_frozen BK1.out 1; have hcz301_0 : w289.cell? ⟨gb22, 0, none⟩ = some (.int .u32 t19) := (blk_cell BK22.out 0).trans rfl; have hcz301_1 : w289.cell? ⟨gb22, 1, none⟩ = some (.int .u32 t20) := (blk_cell BK22.out 1).trans rfl; have hfz301_0 := blk_frozen BK22.out 0; have hfz301_1 := blk_frozen BK22.out 1) | ((with_reducible refine gate_callee (f := 9) rfl ?_); refine goesL_ (some 76) rfl rfl Try.func9 (by kernel_rfl) rfl #[.agg #[.int .u32 a0_0, .int .u32 a0_1], .agg #[.int .u32 t19, .int .u32 t20]] rfl (by (try simp only [List.map_toArray, List.map_cons, List.map_nil]); first | done | rfl | (simp only [List.length_drop, List.length_take]; rfl)) ?_; (with_reducible refine (plane_Meet.calls a0_0 a0_1 t19 t20 t27 t28 _ _ A105.out).mono ?_); rintro e w302 ⟨rfl, hb⟩; refine ⟨_, rfl, ?_⟩; have n0_ := Aside0.mk (blk_below (g := gb1) (o := .cells #[.int .u32 a0_0, .int .u32 a0_1] 24 (0, 0)) (by (with_reducible repeat (first | refine blk_drewN ?_ _ | refine blk_drew ?_ | refine blk_alloc ?_ _)); refine blk_far ?_ NB1_26.out _; (with_reducible repeat (first | refine blk_drewN ?_ _ | refine blk_drew ?_ | refine blk_alloc ?_ _)); refine blk_far ?_ NB1_26.out _; (with_reducible repeat (first | refine blk_drewN ?_ _ | refine blk_drew ?_ | refine blk_alloc ?_ _)); exact BK1.out) hb); have n1_ := Aside0.mk (blk_below (g := gb2) (o := .cells #[.int .u32 a1_0, .int .u32 a1_1] 24 (0, 0)) (by (with_reducible repeat (first | refine blk_drewN ?_ _ | refine blk_drew ?_ | refine blk_alloc ?_ _)); refine blk_far ?_ NB2_26.out _; (with_reducible repeat (first | refine blk_drewN ?_ _ | refine blk_drew ?_ | refine blk_alloc ?_ _)); refine blk_far ?_ NB2_26.out _; (with_reducible repeat (first | refine blk_drewN ?_ _ | refine blk_drew ?_ | refine blk_alloc ?_ _)); exact BK2.out) hb); have n2_ := Aside0.mk (blk_below (g := gb3) (o := .cells #[.int .u32 a2_0, .int .u32 a2_1] 24 (0, 0)) (by (with_reducible repeat (first | refine blk_drewN ?_ _ | refine blk_drew ?_ | refine blk_alloc ?_ _)); refine blk_far ?_ NB3_26.out _; (with_reducible repeat (first | refine blk_drewN ?_ _ | refine blk_drew ?_ | refine blk_alloc ?_ _)); refine blk_far ?_ NB3_26.out _; (with_reducible repeat (first | refine blk_drewN ?_ _ | refine blk_drew ?_ | refine blk_alloc ?_ _)); exact BK3.out) hb); have n3_ := Aside0.mk (blk_below (g := gb8) (o := .cells #[.int .u32 t5, .int .u32 t6] 24 (0, 0)) (by (with_reducible repeat (first | refine blk_drewN ?_ _ | refine blk_drew ?_ | refine blk_alloc ?_ _)); refine blk_far ?_ NB8_26.out _; (with_reducible repeat (first | refine blk_drewN ?_ _ | refine blk_drew ?_ | refine blk_alloc ?_ _)); refine blk_far ?_ NB8_26.out _; (with_reducible repeat (first | refine blk_drewN ?_ _ | refine blk_drew ?_ | refine blk_alloc ?_ _)); exact BK8.out) hb); have n4_ := Aside0.mk (blk_below (g := gb12) (o := .cells #[.int .u32 t9, .int .u32 t10] 24 (0, 0)) (by (with_reducible repeat (first | refine blk_drewN ?_ _ | refine blk_drew ?_ | refine blk_alloc ?_ _)); refine blk_far ?_ NB12_26.out _; (with_reducible repeat (first | refine blk_drewN ?_ _ | refine blk_drew ?_ | refine blk_alloc ?_ _)); refine blk_far ?_ NB12_26.out _; (with_reducible repeat (first | refine blk_drewN ?_ _ | refine blk_drew ?_ | refine blk_alloc ?_ _)); exact BK12.out) hb); have n5_ := Aside0.mk (blk_below (g := gb16) (o := .cells #[.int .u32 t13, .int .u32 t14] 24 (0, 0)) (by (with_reducible repeat (first | refine blk_drewN ?_ _ | refine blk_drew ?_ | refine blk_alloc ?_ _)); refine blk_far ?_ NB16_26.out _; (with_reducible repeat (first | refine blk_drewN ?_ _ | refine blk_drew ?_ | refine blk_alloc ?_ _)); refine blk_far ?_ NB16_26.out _; (with_reducible repeat (first | refine blk_drewN ?_ _ | refine blk_drew ?_ | refine blk_alloc ?_ _)); exact BK16.out) hb); have n6_ := Aside0.mk (blk_below (g := gb22) (o := .cells #[.int .u32 t19, .int .u32 t20] 24 (0, 0)) (by (with_reducible repeat (first | refine blk_drewN ?_ _ | refine blk_drew ?_ | refine blk_alloc ?_ _)); refine blk_far ?_ NB22_26.out _; (with_reducible repeat (first | refine blk_drewN ?_ _ | refine blk_drew ?_ | refine blk_alloc ?_ _)); refine blk_far ?_ NB22_26.out _; (with_reducible repeat (first | refine blk_drewN ?_ _ | refine blk_drew ?_ | refine blk_alloc ?_ _)); exact BK22.out) hb); have n7_ := Aside0.mk (blk_below (g := gb26) (o := .cells #[.int .u32 t23, .int .u32 t24] 24 (0, 0)) (by (with_reducible repeat (first | refine blk_drewN ?_ _ | refine blk_drew ?_ | refine blk_alloc ?_ _)); refine blk_put (cs := #[.int .u32 t23, .int .u32 0]) ?_ 1 _ rfl; (with_reducible repeat (first | refine blk_drewN ?_ _ | refine blk_drew ?_ | refine blk_alloc ?_ _)); refine blk_put (cs := #[.int .u32 0, .int .u32 0]) ?_ 0 _ rfl; (with_reducible repeat (first | refine blk_drewN ?_ _ | refine blk_drew ?_ | refine blk_alloc ?_ _)); exact BK26.out) hb); have n8_ := Aside0.mk (below_step (by repeat (first | (with_reducible first | exact HB.out | apply below_alloc | apply pw_below_drewN | apply below_drew1 | refine below_set ?_ GE1.out | refine below_set ?_ GE2.out | refine below_set ?_ GE3.out | refine below_set ?_ GE8.out | refine below_set ?_ GE12.out | refine below_set ?_ GE16.out | refine below_set ?_ GE22.out | refine below_set ?_ GE26.out) | exact HB.out)) hb); clear BK1; clear BK2; clear BK3; clear BK8; clear BK12; clear BK16; clear BK22; clear BK26; clear HB; have BK1 := n0_; have BK2 := n1_; have BK3 := n2_; have BK8 := n3_; have BK12 := n4_; have BK16 := n5_; have BK22 := n6_; have BK26 := n7_; have HB := n8_; clear n0_ n1_ n2_ n3_ n4_ n5_ n6_ n7_ n8_; (try clear hb); (try clear hb2); (try clear hk); (try clear hi)) | ((with_reducible refine gate_dst (N := 17) rfl ?_); refine box_event ?hg (N := 17) ?hd (cs := #[.int .u32 0, .int .u32 0]) (t := 24) ?hr ?_; (case hd => rfl); (case hg => rfl); (case hr => first | (go_simp; done) | (go_simp; rfl)); intro gb30 hg w303 hbox hb; have n0_ := Aside0.mk (blk_below (g := gb1) (o := .cells #[.int .u32 a0_0, .int .u32 a0_1] 24 (0, 0)) (by (with_reducible repeat (first | refine blk_drewN ?_ _ | refine blk_drew ?_ | refine blk_alloc ?_ _)); exact BK1.out) hb); have n1_ := Aside0.mk (blk_below (g := gb2) (o := .cells #[.int .u32 a1_0, .int .u32 a1_1] 24 (0, 0)) (by (with_reducible repeat (first | refine blk_drewN ?_ _ | refine blk_drew ?_ | refine blk_alloc ?_ _)); exact BK2.out) hb); have n2_ := Aside0.mk (blk_below (g := gb3) (o := .cells #[.int .u32 a2_0, .int .u32 a2_1] 24 (0, 0)) (by (with_reducible repeat (first | refine blk_drewN ?_ _ | refine blk_drew ?_ | refine blk_alloc ?_ _)); exact BK3.out) hb); have n3_ := Aside0.mk (blk_below (g := gb8) (o := .cells #[.int .u32 t5, .int .u32 t6] 24 (0, 0)) (by (with_reducible repeat (first | refine blk_drewN ?_ _ | refine blk_drew ?_ | refine blk_alloc ?_ _)); exact BK8.out) hb); have n4_ := Aside0.mk (blk_below (g := gb12) (o := .cells #[.int .u32 t9, .int .u32 t10] 24 (0, 0)) (by (with_reducible repeat (first | refine blk_drewN ?_ _ | refine blk_drew ?_ | refine blk_alloc ?_ _)); exact BK12.out) hb); have n5_ := Aside0.mk (blk_below (g := gb16) (o := .cells #[.int .u32 t13, .int .u32 t14] 24 (0, 0)) (by (with_reducible repeat (first | refine blk_drewN ?_ _ | refine blk_drew ?_ | refine blk_alloc ?_ _)); exact BK16.out) hb); have n6_ := Aside0.mk (blk_below (g := gb22) (o := .cells #[.int .u32 t19, .int .u32 t20] 24 (0, 0)) (by (with_reducible repeat (first | refine blk_drewN ?_ _ | refine blk_drew ?_ | refine blk_alloc ?_ _)); exact BK22.out) hb); have n7_ := Aside0.mk (blk_below (g := gb26) (o := .cells #[.int .u32 t23, .int .u32 t24] 24 (0, 0)) (by (with_reducible repeat (first | refine blk_drewN ?_ _ | refine blk_drew ?_ | refine blk_alloc ?_ _)); exact BK26.out) hb); have n8_ := Aside0.mk (below_step (by repeat (first | (with_reducible first | exact HB.out | apply below_alloc | apply pw_below_drewN | apply below_drew1 | refine below_set ?_ GE1.out | refine below_set ?_ GE2.out | refine below_set ?_ GE3.out | refine below_set ?_ GE8.out | refine below_set ?_ GE12.out | refine below_set ?_ GE16.out | refine below_set ?_ GE22.out | refine below_set ?_ GE26.out) | exact HB.out)) hb); have n9_ := Aside0.mk (hbox); have n10_ := Aside0.mk ((by rw [hg]; exact (below_size (by repeat (first | (with_reducible first | exact HB.out | apply below_alloc | apply pw_below_drewN | apply below_drew1 | refine below_set ?_ GE1.out | refine below_set ?_ GE2.out | refine below_set ?_ GE3.out | refine below_set ?_ GE8.out | refine below_set ?_ GE12.out | refine below_set ?_ GE16.out | refine below_set ?_ GE22.out | refine below_set ?_ GE26.out) | exact HB.out))) : w.heap.size ≤ gb30)); have n11_ := Aside0.mk ((by rw [hg]; exact (below_size (by repeat (first | (with_reducible first | exact HB.out | apply below_alloc | apply pw_below_drewN | apply below_drew1 | refine below_set ?_ GE1.out | refine below_set ?_ GE2.out | refine below_set ?_ GE3.out | refine below_set ?_ GE8.out | refine below_set ?_ GE12.out | refine below_set ?_ GE16.out | refine below_set ?_ GE22.out | refine below_set ?_ GE26.out) | exact HB.out))) : w.heap.size ≤ gb30)); have n12_ := Aside0.mk ((by rw [hg]; exact Nat.ne_of_lt (blk_lt (g := gb1) (o := .cells #[.int .u32 a0_0, .int .u32 a0_1] 24 (0, 0)) (by (with_reducible repeat (first | refine blk_drewN ?_ _ | refine blk_drew ?_ | refine blk_alloc ?_ _)); exact BK1.out)) : gb1 ≠ gb30)); have n13_ := Aside0.mk ((by rw [hg]; exact Nat.ne_of_gt (blk_lt (g := gb1) (o := .cells #[.int .u32 a0_0, .int .u32 a0_1] 24 (0, 0)) (by (with_reducible repeat (first | refine blk_drewN ?_ _ | refine blk_drew ?_ | refine blk_alloc ?_ _)); exact BK1.out)) : gb30 ≠ gb1)); have n14_ := Aside0.mk ((by rw [hg]; exact Nat.ne_of_lt (blk_lt (g := gb2) (o := .cells #[.int .u32 a1_0, .int .u32 a1_1] 24 (0, 0)) (by (with_reducible repeat (first | refine blk_drewN ?_ _ | refine blk_drew ?_ | refine blk_alloc ?_ _)); exact BK2.out)) : gb2 ≠ gb30)); have n15_ := Aside0.mk ((by rw [hg]; exact Nat.ne_of_gt (blk_lt (g := gb2) (o := .cells #[.int .u32 a1_0, .int .u32 a1_1] 24 (0, 0)) (by (with_reducible repeat (first | refine blk_drewN ?_ _ | refine blk_drew ?_ | refine blk_alloc ?_ _)); exact BK2.out)) : gb30 ≠ gb2)); have n16_ := Aside0.mk ((by rw [hg]; exact Nat.ne_of_lt (blk_lt (g := gb3) (o := .cells #[.int .u32 a2_0, .int .u32 a2_1] 24 (0, 0)) (by (with_reducible repeat (first | refine blk_drewN ?_ _ | refine blk_drew ?_ | refine blk_alloc ?_ _)); exact BK3.out)) : gb3 ≠ gb30)); have n17_ := Aside0.mk ((by rw [hg]; exact Nat.ne_of_gt (blk_lt (g := gb3) (o := .cells #[.int .u32 a2_0, .int .u32 a2_1] 24 (0, 0)) (by (with_reducible repeat (first | refine blk_drewN ?_ _ | refine blk_drew ?_ | refine blk_alloc ?_ _)); exact BK3.out)) : gb30 ≠ gb3)); have n18_ := Aside0.mk ((by rw [hg]; exact Nat.ne_of_lt (blk_lt (g := gb8) (o := .cells #[.int .u32 t5, .int .u32 t6] 24 (0, 0)) (by (with_reducible repeat (first | refine blk_drewN ?_ _ | refine blk_drew ?_ | refine blk_alloc ?_ _)); exact BK8.out)) : gb8 ≠ gb30)); have n19_ := Aside0.mk ((by rw [hg]; exact Nat.ne_of_gt (blk_lt (g := gb8) (o := .cells #[.int .u32 t5, .int .u32 t6] 24 (0, 0)) (by (with_reducible repeat (first | refine blk_drewN ?_ _ | refine blk_drew ?_ | refine blk_alloc ?_ _)); exact BK8.out)) : gb30 ≠ gb8)); have n20_ := Aside0.mk ((by rw [hg]; exact Nat.ne_of_lt (blk_lt (g := gb12) (o := .cells #[.int .u32 t9, .int .u32 t10] 24 (0, 0)) (by (with_reducible repeat (first | refine blk_drewN ?_ _ | refine blk_drew ?_ | refine blk_alloc ?_ _)); exact BK12.out)) : gb12 ≠ gb30)); have n21_ := Aside0.mk ((by rw [hg]; exact Nat.ne_of_gt (blk_lt (g := gb12) (o := .cells #[.int .u32 t9, .int .u32 t10] 24 (0, 0)) (by (with_reducible repeat (first | refine blk_drewN ?_ _ | refine blk_drew ?_ | refine blk_alloc ?_ _)); exact BK12.out)) : gb30 ≠ gb12)); have n22_ := Aside0.mk ((by rw [hg]; exact Nat.ne_of_lt (blk_lt (g := gb16) (o := .cells #[.int .u32 t13, .int .u32 t14] 24 (0, 0)) (by (with_reducible repeat (first | refine blk_drewN ?_ _ | refine blk_drew ?_ | refine blk_alloc ?_ _)); exact BK16.out)) : gb16 ≠ gb30)); have n23_ := Aside0.mk ((by rw [hg]; exact Nat.ne_of_gt (blk_lt (g := gb16) (o := .cells #[.int .u32 t13, .int .u32 t14] 24 (0, 0)) (by (with_reducible repeat (first | refine blk_drewN ?_ _ | refine blk_drew ?_ | refine blk_alloc ?_ _)); exact BK16.out)) : gb30 ≠ gb16)); have n24_ := Aside0.mk ((by rw [hg]; exact Nat.ne_of_lt (blk_lt (g := gb22) (o := .cells #[.int .u32 t19, .int .u32 t20] 24 (0, 0)) (by (with_reducible repeat (first | refine blk_drewN ?_ _ | refine blk_drew ?_ | refine blk_alloc ?_ _)); exact BK22.out)) : gb22 ≠ gb30)); have n25_ := Aside0.mk ((by rw [hg]; exact Nat.ne_of_gt (blk_lt (g := gb22) (o := .cells #[.int .u32 t19, .int .u32 t20] 24 (0, 0)) (by (with_reducible repeat (first | refine blk_drewN ?_ _ | refine blk_drew ?_ | refine blk_alloc ?_ _)); exact BK22.out)) : gb30 ≠ gb22)); have n26_ := Aside0.mk ((by rw [hg]; exact Nat.ne_of_lt (blk_lt (g := gb26) (o := .cells #[.int .u32 t23, .int .u32 t24] 24 (0, 0)) (by (with_reducible repeat (first | refine blk_drewN ?_ _ | refine blk_drew ?_ | refine blk_alloc ?_ _)); exact BK26.out)) : gb26 ≠ gb30)); have n27_ := Aside0.mk ((by rw [hg]; exact Nat.ne_of_gt (blk_lt (g := gb26) (o := .cells #[.int .u32 t23, .int .u32 t24] 24 (0, 0)) (by (with_reducible repeat (first | refine blk_drewN ?_ _ | refine blk_drew ?_ | refine blk_alloc ?_ _)); exact BK26.out)) : gb30 ≠ gb26)); clear BK1; clear BK2; clear BK3; clear BK8; clear BK12; clear BK16; clear BK22; clear BK26; clear HB; have BK1 := n0_; have BK2 := n1_; have BK3 := n2_; have BK8 := n3_; have BK12 := n4_; have BK16 := n5_; have BK22 := n6_; have BK26 := n7_; have HB := n8_; have BK30 := n9_; have GW30 := n10_; have GE30 := n11_; have NB1_30 := n12_; have NB30_1 := n13_; have NB2_30 := n14_; have NB30_2 := n15_; have NB3_30 := n16_; have NB30_3 := n17_; have NB8_30 := n18_; have NB30_8 := n19_; have NB12_30 := n20_; have NB30_12 := n21_; have NB16_30 := n22_; have NB30_16 := n23_; have NB22_30 := n24_; have NB30_22 := n25_; have NB26_30 := n26_; have NB30_26 := n27_; clear n0_ n1_ n2_ n3_ n4_ n5_ n6_ n7_ n8_ n9_ n10_ n11_ n12_ n13_ n14_ n15_ n16_ n17_ n18_ n19_ n20_ n21_ n22_ n23_ n24_ n25_ n26_ n27_; clear hb hbox hg; have hnb304 := NB30_1.out; have hnc304 := NB1_30.out; have hnb305 := NB30_2.out; have hnc305 := NB2_30.out; have hnb306 := NB30_3.out; have hnc306 := NB3_30.out; have hnb307 := NB30_8.out; have hnc307 := NB8_30.out; have hnb308 := NB30_12.out; have hnc308 := NB12_30.out; have hnb309 := NB30_16.out; have hnc309 := NB16_30.out; have hnb310 := NB30_22.out; have hnc310 := NB22_30.out; have hnb311 := NB30_26.out; have hnc311 := NB26_30.out; have hcz312_0 : w303.cell? ⟨gb30, 0, none⟩ = some (.int .u32 0) := (blk_cell BK30.out 0).trans rfl; have hcz312_1 : w303.cell? ⟨gb30, 1, none⟩ = some (.int .u32 0) := (blk_cell BK30.out 1).trans rfl; have hfz312_0 := blk_frozen BK30.out 0; have hfz312_1 := blk_frozen BK30.out 1; have hcz313_0 : w303.cell? ⟨gb26, 0, none⟩ = some (.int .u32 t23) := (blk_cell BK26.out 0).trans rfl; have hcz313_1 : w303.cell? ⟨gb26, 1, none⟩ = some (.int .u32 t24) := (blk_cell BK26.out 1).trans rfl; have hfz313_0 := blk_frozen BK26.out 0; have hfz313_1 := blk_frozen BK26.out 1))
        all_goals go_ret
        all_goals exact ⟨by first | rfl | (simp [errW_none, errW_some] <;> rfl) | (simp [*, errW_none, errW_some] <;> rfl), by repeat (first | (with_reducible first | exact HB.out | apply below_alloc | apply pw_below_drewN | apply below_drew1 | refine below_set ?_ GE1.out | refine below_set ?_ GE2.out | refine below_set ?_ GE3.out | refine below_set ?_ GE8.out | refine below_set ?_ GE12.out | refine below_set ?_ GE16.out | refine below_set ?_ GE22.out | refine below_set ?_ GE26.out | refine below_set ?_ GE30.out) | exact HB.out)⟩
 ·
  replace c5 := Bool.eq_false_iff.mpr c5
  subst c5
  have H1 : (some false) = some r := by rw [if_neg (show ¬ (false = true) by decide)] at H; exact H
  clear H
  have H := H1
  clear H1
  obtain rfl := Option.some.inj H
  go_enter Try.func6, Try.ntmps6
  go_wp2_with (first | ((with_reducible refine gate_dst (N := 3) rfl ?_); refine box_event ?hg (N := 3) ?hd (cs := #[.int .u32 a0_0, .int .u32 a0_1]) (t := 24) ?hr ?_; (case hd => rfl); (case hg => rfl); (case hr => first | (go_simp; done) | (go_simp; rfl)); intro gb1 hg w617 hbox hb; have n0_ := Aside0.mk (below_step (by repeat (first | (with_reducible first | exact HB.out | apply below_alloc | apply pw_below_drewN | apply below_drew1) | exact HB.out)) hb); have n1_ := Aside0.mk (hbox); have n2_ := Aside0.mk ((by rw [hg]; exact (below_size (by repeat (first | (with_reducible first | exact HB.out | apply below_alloc | apply pw_below_drewN | apply below_drew1) | exact HB.out))) : w.heap.size ≤ gb1)); have n3_ := Aside0.mk ((by rw [hg]; exact (below_size (by repeat (first | (with_reducible first | exact HB.out | apply below_alloc | apply pw_below_drewN | apply below_drew1) | exact HB.out))) : w.heap.size ≤ gb1)); clear HB; have HB := n0_; have BK1 := n1_; have GW1 := n2_; have GE1 := n3_; clear n0_ n1_ n2_ n3_; clear hb hbox hg) | ((with_reducible refine gate_dst (N := 4) rfl ?_); refine box_event ?hg (N := 4) ?hd (cs := #[.int .u32 a1_0, .int .u32 a1_1]) (t := 24) ?hr ?_; (case hd => rfl); (case hg => rfl); (case hr => first | (go_simp; done) | (go_simp; rfl)); intro gb2 hg w618 hbox hb; have n0_ := Aside0.mk (blk_below (g := gb1) (o := .cells #[.int .u32 a0_0, .int .u32 a0_1] 24 (0, 0)) (by (with_reducible repeat (first | refine blk_drewN ?_ _ | refine blk_drew ?_ | refine blk_alloc ?_ _)); exact BK1.out) hb); have n1_ := Aside0.mk (below_step (by repeat (first | (with_reducible first | exact HB.out | apply below_alloc | apply pw_below_drewN | apply below_drew1 | refine below_set ?_ GE1.out) | exact HB.out)) hb); have n2_ := Aside0.mk (hbox); have n3_ := Aside0.mk ((by rw [hg]; exact (below_size (by repeat (first | (with_reducible first | exact HB.out | apply below_alloc | apply pw_below_drewN | apply below_drew1 | refine below_set ?_ GE1.out) | exact HB.out))) : w.heap.size ≤ gb2)); have n4_ := Aside0.mk ((by rw [hg]; exact (below_size (by repeat (first | (with_reducible first | exact HB.out | apply below_alloc | apply pw_below_drewN | apply below_drew1 | refine below_set ?_ GE1.out) | exact HB.out))) : w.heap.size ≤ gb2)); have n5_ := Aside0.mk ((by rw [hg]; exact Nat.ne_of_lt (blk_lt (g := gb1) (o := .cells #[.int .u32 a0_0, .int .u32 a0_1] 24 (0, 0)) (by (with_reducible repeat (first | refine blk_drewN ?_ _ | refine blk_drew ?_ | refine blk_alloc ?_ _)); exact BK1.out)) : gb1 ≠ gb2)); have n6_ := Aside0.mk ((by rw [hg]; exact Nat.ne_of_gt (blk_lt (g := gb1) (o := .cells #[.int .u32 a0_0, .int .u32 a0_1] 24 (0, 0)) (by (with_reducible repeat (first | refine blk_drewN ?_ _ | refine blk_drew ?_ | refine blk_alloc ?_ _)); exact BK1.out)) : gb2 ≠ gb1)); clear BK1; clear HB; have BK1 := n0_; have HB := n1_; have BK2 := n2_; have GW2 := n3_; have GE2 := n4_; have NB1_2 := n5_; have NB2_1 := n6_; clear n0_ n1_ n2_ n3_ n4_ n5_ n6_; clear hb hbox hg) | ((with_reducible refine gate_dst (N := 5) rfl ?_); refine box_event ?hg (N := 5) ?hd (cs := #[.int .u32 a2_0, .int .u32 a2_1]) (t := 24) ?hr ?_; (case hd => rfl); (case hg => rfl); (case hr => first | (go_simp; done) | (go_simp; rfl)); intro gb3 hg w619 hbox hb; have n0_ := Aside0.mk (blk_below (g := gb1) (o := .cells #[.int .u32 a0_0, .int .u32 a0_1] 24 (0, 0)) (by (with_reducible repeat (first | refine blk_drewN ?_ _ | refine blk_drew ?_ | refine blk_alloc ?_ _)); exact BK1.out) hb); have n1_ := Aside0.mk (blk_below (g := gb2) (o := .cells #[.int .u32 a1_0, .int .u32 a1_1] 24 (0, 0)) (by (with_reducible repeat (first | refine blk_drewN ?_ _ | refine blk_drew ?_ | refine blk_alloc ?_ _)); exact BK2.out) hb); have n2_ := Aside0.mk (below_step (by repeat (first | (with_reducible first | exact HB.out | apply below_alloc | apply pw_below_drewN | apply below_drew1 | refine below_set ?_ GE1.out | refine below_set ?_ GE2.out) | exact HB.out)) hb); have n3_ := Aside0.mk (hbox); have n4_ := Aside0.mk ((by rw [hg]; exact (below_size (by repeat (first | (with_reducible first | exact HB.out | apply below_alloc | apply pw_below_drewN | apply below_drew1 | refine below_set ?_ GE1.out | refine below_set ?_ GE2.out) | exact HB.out))) : w.heap.size ≤ gb3)); have n5_ := Aside0.mk ((by rw [hg]; exact (below_size (by repeat (first | (with_reducible first | exact HB.out | apply below_alloc | apply pw_below_drewN | apply below_drew1 | refine below_set ?_ GE1.out | refine below_set ?_ GE2.out) | exact HB.out))) : w.heap.size ≤ gb3)); have n6_ := Aside0.mk ((by rw [hg]; exact Nat.ne_of_lt (blk_lt (g := gb1) (o := .cells #[.int .u32 a0_0, .int .u32 a0_1] 24 (0, 0)) (by (with_reducible repeat (first | refine blk_drewN ?_ _ | refine blk_drew ?_ | refine blk_alloc ?_ _)); exact BK1.out)) : gb1 ≠ gb3)); have n7_ := Aside0.mk ((by rw [hg]; exact Nat.ne_of_gt (blk_lt (g := gb1) (o := .cells #[.int .u32 a0_0, .int .u32 a0_1] 24 (0, 0)) (by (with_reducible repeat (first | refine blk_drewN ?_ _ | refine blk_drew ?_ | refine blk_alloc ?_ _)); exact BK1.out)) : gb3 ≠ gb1)); have n8_ := Aside0.mk ((by rw [hg]; exact Nat.ne_of_lt (blk_lt (g := gb2) (o := .cells #[.int .u32 a1_0, .int .u32 a1_1] 24 (0, 0)) (by (with_reducible repeat (first | refine blk_drewN ?_ _ | refine blk_drew ?_ | refine blk_alloc ?_ _)); exact BK2.out)) : gb2 ≠ gb3)); have n9_ := Aside0.mk ((by rw [hg]; exact Nat.ne_of_gt (blk_lt (g := gb2) (o := .cells #[.int .u32 a1_0, .int .u32 a1_1] 24 (0, 0)) (by (with_reducible repeat (first | refine blk_drewN ?_ _ | refine blk_drew ?_ | refine blk_alloc ?_ _)); exact BK2.out)) : gb3 ≠ gb2)); clear BK1; clear BK2; clear HB; have BK1 := n0_; have BK2 := n1_; have HB := n2_; have BK3 := n3_; have GW3 := n4_; have GE3 := n5_; have NB1_3 := n6_; have NB3_1 := n7_; have NB2_3 := n8_; have NB3_2 := n9_; clear n0_ n1_ n2_ n3_ n4_ n5_ n6_ n7_ n8_ n9_; clear hb hbox hg) | ((with_reducible refine gate_callee (f := 8) rfl ?_); refine goesL_ (some 19) rfl rfl Try.func8 (by kernel_rfl) rfl #[] rfl (by (try simp only [List.map_toArray, List.map_cons, List.map_nil]); first | done | rfl | (simp only [List.length_drop, List.length_take]; rfl)) ?_; (with_reducible refine (q4z.calls k  false _ A4.out).mono ?_); rintro e w620 ⟨rfl, hb⟩; refine ⟨_, rfl, ?_⟩; have n0_ := Aside0.mk (blk_below (g := gb1) (o := .cells #[.int .u32 a0_0, .int .u32 a0_1] 24 (0, 0)) (by (with_reducible repeat (first | refine blk_drewN ?_ _ | refine blk_drew ?_ | refine blk_alloc ?_ _)); exact BK1.out) hb); have n1_ := Aside0.mk (blk_below (g := gb2) (o := .cells #[.int .u32 a1_0, .int .u32 a1_1] 24 (0, 0)) (by (with_reducible repeat (first | refine blk_drewN ?_ _ | refine blk_drew ?_ | refine blk_alloc ?_ _)); exact BK2.out) hb); have n2_ := Aside0.mk (blk_below (g := gb3) (o := .cells #[.int .u32 a2_0, .int .u32 a2_1] 24 (0, 0)) (by (with_reducible repeat (first | refine blk_drewN ?_ _ | refine blk_drew ?_ | refine blk_alloc ?_ _)); exact BK3.out) hb); have n3_ := Aside0.mk (below_step (by repeat (first | (with_reducible first | exact HB.out | apply below_alloc | apply pw_below_drewN | apply below_drew1 | refine below_set ?_ GE1.out | refine below_set ?_ GE2.out | refine below_set ?_ GE3.out) | exact HB.out)) hb); clear BK1; clear BK2; clear BK3; clear HB; have BK1 := n0_; have BK2 := n1_; have BK3 := n2_; have HB := n3_; clear n0_ n1_ n2_ n3_; (try clear hb); (try clear hb2); (try clear hk); (try clear hi)))
  go_ret
  exact ⟨by first | rfl | (simp [errW_none, errW_some] <;> rfl) | (simp [*, errW_none, errW_some] <;> rfl), by repeat (first | (with_reducible first | exact HB.out | apply below_alloc | apply pw_below_drewN | apply below_drew1 | refine below_set ?_ GE1.out | refine below_set ?_ GE2.out | refine below_set ?_ GE3.out) | exact HB.out)⟩

end Go.Proofs.Ytdkbfcogmlghfaa.P

namespace Go.Proofs.Ytdkbfcogmlghfaa.P
open Go.RowKit Go.Proofs.YtdkbfcogmlghfaaW.PrintWords Go.Proofs.YtdkbfcogmlghfaaW.PrintLast Go.Proofs.YtdkbfcogmlghfaaW.PrintMore Go.ChangeShapes Go.WideShapes
set_option linter.unusedVariables false
section
variable {H : Type} {enc : TypeId × Value → H} {P : Program} {w : World} {base : Nat} {spare : Nat → Bool} {held : Bool}
/-- Whatever reads as data of type T is a value of kind d. -/
def Opens (enc : TypeId × Value → H) (P : Program) (w : World) (base : Nat) (spare : Nat → Bool) (held : Bool) {α : Type} (d : Kd α) (T : TypeId) (good : α → Prop) : Prop :=
  ∀ fuel cs y, DataW.trod enc P w base spare held fuel T cs = some y → ∃ x, d.K w x cs ∧ good x
theorem opens_int {k : IntKind} {T : TypeId} (ht : P.underlying T = some (.int k)) : Opens enc P w base spare held (Kd.int k) T (fun n => (Lit.int k n).wf = true) := by
  intro fuel cs y h
  obtain ⟨n, rfl, _, hw⟩ := DataW.trod_int ht h
  exact ⟨n, rfl, hw⟩
theorem opens_string {T : TypeId} (ht : P.underlying T = some .string) : Opens enc P w base spare held Kd.string T (fun s => s.size ≤ maxLen) := by
  intro fuel cs y h
  obtain ⟨s, rfl, _, hw⟩ := DataW.trod_string ht h
  exact ⟨s, rfl, hw⟩
theorem opens_bool {T : TypeId} (ht : P.underlying T = some .bool) : Opens enc P w base spare held Kd.bool T (fun _ => True) := by
  intro fuel cs y h
  cases fuel with
  | zero => simp [DataW.trod] at h
  | succ n =>
    unfold DataW.trod at h
    rw [ht] at h
    split at h
    all_goals first | exact ⟨_, rfl, trivial⟩ | (exfalso; simp_all; done)
theorem pick_list {α : Type} {Q : Nat → α → Prop} : ∀ n : Nat, (∀ i, i < n → ∃ x, Q i x) → ∃ xs : List α, xs.length = n ∧ ∀ i x, xs[i]? = some x → Q i x
  | 0, _ => ⟨[], rfl, fun i x h => by simp at h⟩
  | n + 1, h => by
    obtain ⟨xs, hl, hx⟩ := pick_list n (fun i hi => h i (by omega))
    obtain ⟨x, hxn⟩ := h n (by omega)
    refine ⟨xs ++ [x], by simp [hl], fun i z hz => ?_⟩
    by_cases hi : i < n
    · rw [List.getElem?_append_left (by omega)] at hz
      exact hx i z hz
    · rw [List.getElem?_append_right (by omega)] at hz
      have hi0 : i - xs.length = 0 := by
        have := (List.getElem?_eq_some_iff.1 hz).1
        simp at this
        omega
      rw [hi0] at hz
      have : x = z := by simpa using hz
      subst this
      have : i = n := by omega
      subst this
      exact hxn
theorem opens_slice {α : Type} {d : Kd α} {T e : TypeId} {good : α → Prop} (ht : P.underlying T = some (.slice e)) (hce : P.cellsOf e = d.sz) (ho : Opens enc P w base spare held d e good) :
    Opens enc P w base spare held (Kd.slice e d) T (fun xs => xs.length ≤ 9223372036854775807 ∧ ∀ x ∈ xs, good x) := by
  intro fuel cs y h
  rcases Go.Deep.open_slice ht h with ⟨rfl, _⟩ | ⟨a, len, cap, m, n, D, Pl, rfl, hb, hl, hm, hmm, _, hx⟩
  · exact ⟨[], ⟨none, 0, rfl, Nat.le_refl _, ⟨rfl, by simp, fun h => absurd h (by simp)⟩⟩, by simp, fun x hx => (List.not_mem_nil hx).elim⟩
  · have hlm : len ≤ m := by rw [hmm]; split <;> omega
    have each : ∀ i, i < len → ∃ q : α × List Value, w.cells? base (a.add (i * d.sz)) d.sz = some q.2 ∧ d.K w q.1 q.2 ∧ good q.1 := fun i hi => by
      obtain ⟨cs', h1, h2⟩ := hx i (by omega)
      obtain ⟨x, hk, hg⟩ := ho _ _ _ h2
      rw [hce] at h1
      exact ⟨(x, cs'), h1, hk, hg⟩
    obtain ⟨qs, hql, hq⟩ := pick_list len each
    refine ⟨qs.map (·.1), ⟨some a, cap, by simp [hql], by simp [hql]; omega, ?_⟩, by simp only [List.length_map, hql]; unfold maxLen at hm; omega, ?_⟩
    · refine ⟨rfl, by simp only [List.length_map, hql]; unfold maxLen at hm; omega, fun _ => ⟨a, rfl, fun j p hp => ?_⟩⟩
      rw [List.getElem?_map] at hp
      obtain ⟨q, hqj, rfl⟩ := Option.map_eq_some_iff.1 hp
      obtain ⟨h1, h2, _⟩ := hq j q hqj
      obtain ⟨_, h4, h5⟩ := World.cells?_some h1
      refine ⟨q.2, h4, h2, fun i u hu => ?_⟩
      have hi : i < d.sz := by have := (List.getElem?_eq_some_iff.1 hu).1; omega
      have h6 := h5 i hi
      rw [add_add] at h6
      rw [h6, hu]
    · intro x hx'
      obtain ⟨q, hq', rfl⟩ := List.mem_map.1 hx'
      obtain ⟨i, hi⟩ := List.getElem?_of_mem hq'
      exact (hq i q hi).2.2
end
end Go.Proofs.Ytdkbfcogmlghfaa.P

namespace Go.Proofs.Ytdkbfcogmlghfaa.P
open Go.RowKit Go.Proofs.YtdkbfcogmlghfaaW.PrintWords Go.Proofs.YtdkbfcogmlghfaaW.PrintMore Go.ChangeShapes Go.WideShapes
set_option linter.unusedVariables false
def good24 (x : S24) : Prop := (Lit.int .u32 x.f0).wf = true ∧ (Lit.int .u32 x.f1).wf = true
theorem opens_T24 {H : Type} {enc : TypeId × Value → H} {w : World} {base : Nat} {spare : Nat → Bool} {held : Bool} : Opens enc Try.prog w base spare held k24 24 good24 := by
  intro fuel cs y h
  obtain ⟨xs, n, _, _, hlen, hxl, hf⟩ := DataW.trod_struct Try.underlying24 h
  have hcs : cs.length = 2 := hlen.trans (by kernel_rfl)
  have h0 := hf 0 _ rfl
  obtain ⟨y0, e0⟩ : ∃ y_, xs[0]? = some y_ := ⟨_, List.getElem?_eq_getElem (by rw [hxl]; decide)⟩
  rw [e0] at h0
  have q0 : DataW.trod enc Try.prog w base spare held n 22 ((cs.drop 0).take 1) = some y0 := (congrArg (fun z => DataW.trod enc Try.prog w base spare held n 22 ((cs.drop 0).take z)) (show 1 = Try.prog.cellsOf 22 from by kernel_rfl)).trans h0
  obtain ⟨x0, k0_, g0⟩ := (opens_int Try.underlying22) _ _ _ q0
  have h1 := hf 1 _ rfl
  obtain ⟨y1, e1⟩ : ∃ y_, xs[1]? = some y_ := ⟨_, List.getElem?_eq_getElem (by rw [hxl]; decide)⟩
  rw [e1] at h1
  have q1 : DataW.trod enc Try.prog w base spare held n 22 ((cs.drop 1).take 1) = some y1 := (congrArg (fun z => DataW.trod enc Try.prog w base spare held n 22 ((cs.drop 1).take z)) (show 1 = Try.prog.cellsOf 22 from by kernel_rfl)).trans h1
  obtain ⟨x1, k1_, g1⟩ := (opens_int Try.underlying22) _ _ _ q1
  have s0 : cs.drop 0 = (cs.drop 0).take 1 ++ cs.drop 1 := by have e_ := (List.take_append_drop 1 (cs.drop 0)).symm; rwa [List.drop_drop] at e_
  have s1 : cs.drop 1 = (cs.drop 1).take 1 := (List.take_of_length_le (by rw [List.length_drop, hcs]; decide)).symm
  exact ⟨⟨x0, x1⟩, ⟨(cs.drop 0).take 1, cs.drop 1, (show cs = _ from s0), k0_, (by rw [s1]; exact k1_)⟩, g0, g1⟩
end Go.Proofs.Ytdkbfcogmlghfaa.P

namespace Go.Proofs.Ytdkbfcogmlghfaa.P
open Go.RowKit Go.Proofs.YtdkbfcogmlghfaaW.PrintWords Go.Proofs.YtdkbfcogmlghfaaW.PrintLast Go.Proofs.YtdkbfcogmlghfaaW.PrintMore
attribute [local go_sem] max2_int min2_int max_two min_two max_three min_three max_four min_four
set_option linter.unusedVariables false
set_option linter.unusedSimpArgs false

/-! ### dragomanref02_Meet: function 10 -/
def q6z.f (a0_0 : Int) (a0_1 : Int) (a1_0 : Int) (a1_1 : Int) : Option (Int × Int × Bool) := if (mx ((Int.tdiv a0_0 65536) % 4294967296) ((Int.tdiv a1_0 65536) % 4294967296)) > (mn ((Int.tdiv a0_1 65536) % 4294967296) ((Int.tdiv a1_1 65536) % 4294967296)) then (some (0, 0, false)) else (if (mx (Int.tmod a0_0 65536) (Int.tmod a1_0 65536)) > (mn (Int.tmod a0_1 65536) (Int.tmod a1_1 65536)) then (some (0, 0, false)) else (some (((65536 * (mx ((Int.tdiv a0_0 65536) % 4294967296) ((Int.tdiv a1_0 65536) % 4294967296))) + (mx (Int.tmod a0_0 65536) (Int.tmod a1_0 65536))) % 4294967296, ((65536 * (mn ((Int.tdiv a0_1 65536) % 4294967296) ((Int.tdiv a1_1 65536) % 4294967296))) + (mn (Int.tmod a0_1 65536) (Int.tmod a1_1 65536))) % 4294967296, true)))
set_option maxHeartbeats 8000000 in
set_option maxRecDepth 100000 in
theorem q6z.calls (a0_0 : Int) (a0_1 : Int) (a1_0 : Int) (a1_1 : Int) (r1 : Int) (r2 : Int) (r3 : Bool) (w : World) (h : q6z.f a0_0 a0_1 a1_0 a1_1 = some (r1, r2, r3)) :
  Calls Try.prog 10 #[.agg #[.int .u32 a0_0, .int .u32 a0_1], .agg #[.int .u32 a1_0, .int .u32 a1_1]] w fun e w' => e = .returned (.tuple #[.agg #[.int .u32 r1, .int .u32 r2], .bool r3]) ∧ Below w.heap.size w w' := by
 have hu24 := Try.underlying24
 have HB := Aside0.mk (Below.refl w.heap.size w)
 have H : (if (mx ((Int.tdiv a0_0 65536) % 4294967296) ((Int.tdiv a1_0 65536) % 4294967296)) > (mn ((Int.tdiv a0_1 65536) % 4294967296) ((Int.tdiv a1_1 65536) % 4294967296)) then (some (0, 0, false)) else (if (mx (Int.tmod a0_0 65536) (Int.tmod a1_0 65536)) > (mn (Int.tmod a0_1 65536) (Int.tmod a1_1 65536)) then (some (0, 0, false)) else (some (((65536 * (mx ((Int.tdiv a0_0 65536) % 4294967296) ((Int.tdiv a1_0 65536) % 4294967296))) + (mx (Int.tmod a0_0 65536) (Int.tmod a1_0 65536))) % 4294967296, ((65536 * (mn ((Int.tdiv a0_1 65536) % 4294967296) ((Int.tdiv a1_1 65536) % 4294967296))) + (mn (Int.tmod a0_1 65536) (Int.tmod a1_1 65536))) % 4294967296, true)))) = some (r1, r2, r3) := h
 clear h
 obtain ⟨ji3, hji3⟩ : ∃ j_ : Int, (mx ((Int.tdiv a0_0 65536) % 4294967296) ((Int.tdiv a1_0 65536) % 4294967296)) = j_ := ⟨_, rfl⟩
 replace H : (if (ji3) > (mn ((Int.tdiv a0_1 65536) % 4294967296) ((Int.tdiv a1_1 65536) % 4294967296)) then (some (0, 0, false)) else (if (mx (Int.tmod a0_0 65536) (Int.tmod a1_0 65536)) > (mn (Int.tmod a0_1 65536) (Int.tmod a1_1 65536)) then (some (0, 0, false)) else (some (((65536 * (ji3)) + (mx (Int.tmod a0_0 65536) (Int.tmod a1_0 65536))) % 4294967296, ((65536 * (mn ((Int.tdiv a0_1 65536) % 4294967296) ((Int.tdiv a1_1 65536) % 4294967296))) + (mn (Int.tmod a0_1 65536) (Int.tmod a1_1 65536))) % 4294967296, true)))) = some (r1, r2, r3) := by first | (rw [hji3] at H; exact H) | (simp only [hji3] at H ⊢; exact H)
 (try (have hji3h : ji3 ≤ 4294967295 := by (rw [← hji3]; unfold mx; (repeat' split) <;> omega)))
 (try (have hji3g : ji3 ≤ 64 := by omega))
 (try (have hji3l : 0 ≤ ji3 := by (rw [← hji3]; unfold mx; (repeat' split) <;> omega)))
 (try (have hji3m : 0 ≤ ji3 := by omega))
 have hji3_ : (if ((Int.tdiv a0_0 65536) % 4294967296) < ((Int.tdiv a1_0 65536) % 4294967296) then ((Int.tdiv a1_0 65536) % 4294967296) else ((Int.tdiv a0_0 65536) % 4294967296)) = ji3 := hji3
 obtain ⟨ji4, hji4⟩ : ∃ j_ : Int, (mx (Int.tmod a0_0 65536) (Int.tmod a1_0 65536)) = j_ := ⟨_, rfl⟩
 replace H : (if (ji3) > (mn ((Int.tdiv a0_1 65536) % 4294967296) ((Int.tdiv a1_1 65536) % 4294967296)) then (some (0, 0, false)) else (if (ji4) > (mn (Int.tmod a0_1 65536) (Int.tmod a1_1 65536)) then (some (0, 0, false)) else (some (((65536 * (ji3)) + (ji4)) % 4294967296, ((65536 * (mn ((Int.tdiv a0_1 65536) % 4294967296) ((Int.tdiv a1_1 65536) % 4294967296))) + (mn (Int.tmod a0_1 65536) (Int.tmod a1_1 65536))) % 4294967296, true)))) = some (r1, r2, r3) := by first | (rw [hji4] at H; exact H) | (simp only [hji4] at H ⊢; exact H)
 have hji4_ : (if (Int.tmod a0_0 65536) < (Int.tmod a1_0 65536) then (Int.tmod a1_0 65536) else (Int.tmod a0_0 65536)) = ji4 := hji4
 obtain ⟨ji5, hji5⟩ : ∃ j_ : Int, (mn ((Int.tdiv a0_1 65536) % 4294967296) ((Int.tdiv a1_1 65536) % 4294967296)) = j_ := ⟨_, rfl⟩
 replace H : (if (ji3) > (ji5) then (some (0, 0, false)) else (if (ji4) > (mn (Int.tmod a0_1 65536) (Int.tmod a1_1 65536)) then (some (0, 0, false)) else (some (((65536 * (ji3)) + (ji4)) % 4294967296, ((65536 * (ji5)) + (mn (Int.tmod a0_1 65536) (Int.tmod a1_1 65536))) % 4294967296, true)))) = some (r1, r2, r3) := by first | (rw [hji5] at H; exact H) | (simp only [hji5] at H ⊢; exact H)
 (try (have hji5h : ji5 ≤ 4294967295 := by (rw [← hji5]; unfold mn; (repeat' split) <;> omega)))
 (try (have hji5g : ji5 ≤ 64 := by omega))
 (try (have hji5l : 0 ≤ ji5 := by (rw [← hji5]; unfold mn; (repeat' split) <;> omega)))
 (try (have hji5m : 0 ≤ ji5 := by omega))
 have hji5_ : (if ((Int.tdiv a1_1 65536) % 4294967296) < ((Int.tdiv a0_1 65536) % 4294967296) then ((Int.tdiv a1_1 65536) % 4294967296) else ((Int.tdiv a0_1 65536) % 4294967296)) = ji5 := hji5
 obtain ⟨ji6, hji6⟩ : ∃ j_ : Int, (mn (Int.tmod a0_1 65536) (Int.tmod a1_1 65536)) = j_ := ⟨_, rfl⟩
 replace H : (if (ji3) > (ji5) then (some (0, 0, false)) else (if (ji4) > (ji6) then (some (0, 0, false)) else (some (((65536 * (ji3)) + (ji4)) % 4294967296, ((65536 * (ji5)) + (ji6)) % 4294967296, true)))) = some (r1, r2, r3) := by first | (rw [hji6] at H; exact H) | (simp only [hji6] at H ⊢; exact H)
 have hji6_ : (if (Int.tmod a1_1 65536) < (Int.tmod a0_1 65536) then (Int.tmod a1_1 65536) else (Int.tmod a0_1 65536)) = ji6 := hji6
 by_cases c7 : (ji3) > (ji5)
 ·
  rw [if_pos c7] at H
  have c7b0 : decide ((ji5) < (ji3)) = true := decide_eq_true c7
  clear c7
  simp only [Option.some.injEq, Prod.mk.injEq] at H
  obtain ⟨rfl, rfl, rfl⟩ := H
  go_enter Try.func10, Try.ntmps10
  go_wp2_with (first | ((with_reducible refine gate_dst (N := 2) rfl ?_); refine box_event ?hg (N := 2) ?hd (cs := #[.int .u32 a0_0, .int .u32 a0_1]) (t := 24) ?hr ?_; (case hd => rfl); (case hg => rfl); (case hr => first | (go_simp; done) | (go_simp; rfl)); intro gb1 hg w8 hbox hb; have n0_ := Aside0.mk (below_step (by repeat (first | (with_reducible first | exact HB.out | apply below_alloc | apply pw_below_drewN | apply below_drew1) | exact HB.out)) hb); have n1_ := Aside0.mk (hbox); have n2_ := Aside0.mk ((by rw [hg]; exact (below_size (by repeat (first | (with_reducible first | exact HB.out | apply below_alloc | apply pw_below_drewN | apply below_drew1) | exact HB.out))) : w.heap.size ≤ gb1)); have n3_ := Aside0.mk ((by rw [hg]; exact (below_size (by repeat (first | (with_reducible first | exact HB.out | apply below_alloc | apply pw_below_drewN | apply below_drew1) | exact HB.out))) : w.heap.size ≤ gb1)); clear HB; have HB := n0_; have BK1 := n1_; have GW1 := n2_; have GE1 := n3_; clear n0_ n1_ n2_ n3_; clear hb hbox hg) | ((with_reducible refine gate_dst (N := 3) rfl ?_); refine box_event ?hg (N := 3) ?hd (cs := #[.int .u32 a1_0, .int .u32 a1_1]) (t := 24) ?hr ?_; (case hd => rfl); (case hg => rfl); (case hr => first | (go_simp; done) | (go_simp; rfl)); intro gb2 hg w9 hbox hb; have n0_ := Aside0.mk (blk_below (g := gb1) (o := .cells #[.int .u32 a0_0, .int .u32 a0_1] 24 (0, 0)) (by (with_reducible repeat (first | refine blk_drewN ?_ _ | refine blk_drew ?_ | refine blk_alloc ?_ _)); exact BK1.out) hb); have n1_ := Aside0.mk (below_step (by repeat (first | (with_reducible first | exact HB.out | apply below_alloc | apply pw_below_drewN | apply below_drew1 | refine below_set ?_ GE1.out) | exact HB.out)) hb); have n2_ := Aside0.mk (hbox); have n3_ := Aside0.mk ((by rw [hg]; exact (below_size (by repeat (first | (with_reducible first | exact HB.out | apply below_alloc | apply pw_below_drewN | apply below_drew1 | refine below_set ?_ GE1.out) | exact HB.out))) : w.heap.size ≤ gb2)); have n4_ := Aside0.mk ((by rw [hg]; exact (below_size (by repeat (first | (with_reducible first | exact HB.out | apply below_alloc | apply pw_below_drewN | apply below_drew1 | refine below_set ?_ GE1.out) | exact HB.out))) : w.heap.size ≤ gb2)); have n5_ := Aside0.mk ((by rw [hg]; exact Nat.ne_of_lt (blk_lt (g := gb1) (o := .cells #[.int .u32 a0_0, .int .u32 a0_1] 24 (0, 0)) (by (with_reducible repeat (first | refine blk_drewN ?_ _ | refine blk_drew ?_ | refine blk_alloc ?_ _)); exact BK1.out)) : gb1 ≠ gb2)); have n6_ := Aside0.mk ((by rw [hg]; exact Nat.ne_of_gt (blk_lt (g := gb1) (o := .cells #[.int .u32 a0_0, .int .u32 a0_1] 24 (0, 0)) (by (with_reducible repeat (first | refine blk_drewN ?_ _ | refine blk_drew ?_ | refine blk_alloc ?_ _)); exact BK1.out)) : gb2 ≠ gb1)); clear BK1; clear HB; have BK1 := n0_; have HB := n1_; have BK2 := n2_; have GW2 := n3_; have GE2 := n4_; have NB1_2 := n5_; have NB2_1 := n6_; clear n0_ n1_ n2_ n3_ n4_ n5_ n6_; clear hb hbox hg) | ((with_reducible refine gate_dst (N := 4) rfl ?_); refine box_event ?hg (N := 4) ?hd (cs := #[.int .u32 0, .int .u32 0]) (t := 24) ?hr ?_; (case hd => rfl); (case hg => rfl); (case hr => first | (go_simp; done) | (go_simp; rfl)); intro gb3 hg w10 hbox hb; have n0_ := Aside0.mk (blk_below (g := gb1) (o := .cells #[.int .u32 a0_0, .int .u32 a0_1] 24 (0, 0)) (by (with_reducible repeat (first | refine blk_drewN ?_ _ | refine blk_drew ?_ | refine blk_alloc ?_ _)); exact BK1.out) hb); have n1_ := Aside0.mk (blk_below (g := gb2) (o := .cells #[.int .u32 a1_0, .int .u32 a1_1] 24 (0, 0)) (by (with_reducible repeat (first | refine blk_drewN ?_ _ | refine blk_drew ?_ | refine blk_alloc ?_ _)); exact BK2.out) hb); have n2_ := Aside0.mk (below_step (by repeat (first | (with_reducible first | exact HB.out | apply below_alloc | apply pw_below_drewN | apply below_drew1 | refine below_set ?_ GE1.out | refine below_set ?_ GE2.out) | exact HB.out)) hb); have n3_ := Aside0.mk (hbox); have n4_ := Aside0.mk ((by rw [hg]; exact (below_size (by repeat (first | (with_reducible first | exact HB.out | apply below_alloc | apply pw_below_drewN | apply below_drew1 | refine below_set ?_ GE1.out | refine below_set ?_ GE2.out) | exact HB.out))) : w.heap.size ≤ gb3)); have n5_ := Aside0.mk ((by rw [hg]; exact (below_size (by repeat (first | (with_reducible first | exact HB.out | apply below_alloc | apply pw_below_drewN | apply below_drew1 | refine below_set ?_ GE1.out | refine below_set ?_ GE2.out) | exact HB.out))) : w.heap.size ≤ gb3)); have n6_ := Aside0.mk ((by rw [hg]; exact Nat.ne_of_lt (blk_lt (g := gb1) (o := .cells #[.int .u32 a0_0, .int .u32 a0_1] 24 (0, 0)) (by (with_reducible repeat (first | refine blk_drewN ?_ _ | refine blk_drew ?_ | refine blk_alloc ?_ _)); exact BK1.out)) : gb1 ≠ gb3)); have n7_ := Aside0.mk ((by rw [hg]; exact Nat.ne_of_gt (blk_lt (g := gb1) (o := .cells #[.int .u32 a0_0, .int .u32 a0_1] 24 (0, 0)) (by (with_reducible repeat (first | refine blk_drewN ?_ _ | refine blk_drew ?_ | refine blk_alloc ?_ _)); exact BK1.out)) : gb3 ≠ gb1)); have n8_ := Aside0.mk ((by rw [hg]; exact Nat.ne_of_lt (blk_lt (g := gb2) (o := .cells #[.int .u32 a1_0, .int .u32 a1_1] 24 (0, 0)) (by (with_reducible repeat (first | refine blk_drewN ?_ _ | refine blk_drew ?_ | refine blk_alloc ?_ _)); exact BK2.out)) : gb2 ≠ gb3)); have n9_ := Aside0.mk ((by rw [hg]; exact Nat.ne_of_gt (blk_lt (g := gb2) (o := .cells #[.int .u32 a1_0, .int .u32 a1_1] 24 (0, 0)) (by (with_reducible repeat (first | refine blk_drewN ?_ _ | refine blk_drew ?_ | refine blk_alloc ?_ _)); exact BK2.out)) : gb3 ≠ gb2)); clear BK1; clear BK2; clear HB; have BK1 := n0_; have BK2 := n1_; have HB := n2_; have BK3 := n3_; have GW3 := n4_; have GE3 := n5_; have NB1_3 := n6_; have NB3_1 := n7_; have NB2_3 := n8_; have NB3_2 := n9_; clear n0_ n1_ n2_ n3_ n4_ n5_ n6_ n7_ n8_ n9_; clear hb hbox hg; have hnb11 := NB1_2.out; have hnc11 := NB2_1.out; have hnb12 := NB1_3.out; have hnc12 := NB3_1.out; have hcz13_0 : w10.cell? ⟨gb1, 0, none⟩ = some (.int .u32 a0_0) := (blk_cell BK1.out 0).trans rfl; have hcz13_1 : w10.cell? ⟨gb1, 1, none⟩ = some (.int .u32 a0_1) := (blk_cell BK1.out 1).trans rfl; have hfz13_0 := blk_frozen BK1.out 0; have hfz13_1 := blk_frozen BK1.out 1; have hnb14 := NB2_3.out; have hnc14 := NB3_2.out; have hcz15_0 : w10.cell? ⟨gb2, 0, none⟩ = some (.int .u32 a1_0) := (blk_cell BK2.out 0).trans rfl; have hcz15_1 : w10.cell? ⟨gb2, 1, none⟩ = some (.int .u32 a1_1) := (blk_cell BK2.out 1).trans rfl; have hfz15_0 := blk_frozen BK2.out 0; have hfz15_1 := blk_frozen BK2.out 1; have hcz16_0 : w10.cell? ⟨gb3, 0, none⟩ = some (.int .u32 0) := (blk_cell BK3.out 0).trans rfl; have hcz16_1 : w10.cell? ⟨gb3, 1, none⟩ = some (.int .u32 0) := (blk_cell BK3.out 1).trans rfl; have hfz16_0 := blk_frozen BK3.out 0; have hfz16_1 := blk_frozen BK3.out 1))
  repeat (go_quiet (first | ((with_reducible refine gate_dst (N := 2) rfl ?_); refine box_event ?hg (N := 2) ?hd (cs := #[.int .u32 a0_0, .int .u32 a0_1]) (t := 24) ?hr ?_; (case hd => rfl); (case hg => rfl); (case hr => first | (go_simp; done) | (go_simp; rfl)); intro gb1 hg w8 hbox hb; have n0_ := Aside0.mk (below_step (by repeat (first | (with_reducible first | exact HB.out | apply below_alloc | apply pw_below_drewN | apply below_drew1) | exact HB.out)) hb); have n1_ := Aside0.mk (hbox); have n2_ := Aside0.mk ((by rw [hg]; exact (below_size (by repeat (first | (with_reducible first | exact HB.out | apply below_alloc | apply pw_below_drewN | apply below_drew1) | exact HB.out))) : w.heap.size ≤ gb1)); have n3_ := Aside0.mk ((by rw [hg]; exact (below_size (by repeat (first | (with_reducible first | exact HB.out | apply below_alloc | apply pw_below_drewN | apply below_drew1) | exact HB.out))) : w.heap.size ≤ gb1)); clear HB; have HB := n0_; have BK1 := n1_; have GW1 := n2_; have GE1 := n3_; clear n0_ n1_ n2_ n3_; clear hb hbox hg) | ((with_reducible refine gate_dst (N := 3) rfl ?_); refine box_event ?hg (N := 3) ?hd (cs := #[.int .u32 a1_0, .int .u32 a1_1]) (t := 24) ?hr ?_; (case hd => rfl); (case hg => rfl); (case hr => first | (go_simp; done) | (go_simp; rfl)); intro gb2 hg w9 hbox hb; have n0_ := Aside0.mk (blk_below (g := gb1) (o := .cells #[.int .u32 a0_0, .int .u32 a0_1] 24 (0, 0)) (by (with_reducible repeat (first | refine blk_drewN ?_ _ | refine blk_drew ?_ | refine blk_alloc ?_ _)); exact BK1.out) hb); have n1_ := Aside0.mk (below_step (by repeat (first | (with_reducible first | exact HB.out | apply below_alloc | apply pw_below_drewN | apply below_drew1 | refine below_set ?_ GE1.out) | exact HB.out)) hb); have n2_ := Aside0.mk (hbox); have n3_ := Aside0.mk ((by rw [hg]; exact (below_size (by repeat (first | (with_reducible first | exact HB.out | apply below_alloc | apply pw_below_drewN | apply below_drew1 | refine below_set ?_ GE1.out) | exact HB.out))) : w.heap.size ≤ gb2)); have n4_ := Aside0.mk ((by rw [hg]; exact (below_size (by repeat (first | (with_reducible first | exact HB.out | apply below_alloc | apply pw_below_drewN | apply below_drew1 | refine below_set ?_ GE1.out) | exact HB.out))) : w.heap.size ≤ gb2)); have n5_ := Aside0.mk ((by rw [hg]; exact Nat.ne_of_lt (blk_lt (g := gb1) (o := .cells #[.int .u32 a0_0, .int .u32 a0_1] 24 (0, 0)) (by (with_reducible repeat (first | refine blk_drewN ?_ _ | refine blk_drew ?_ | refine blk_alloc ?_ _)); exact BK1.out)) : gb1 ≠ gb2)); have n6_ := Aside0.mk ((by rw [hg]; exact Nat.ne_of_gt (blk_lt (g := gb1) (o := .cells #[.int .u32 a0_0, .int .u32 a0_1] 24 (0, 0)) (by (with_reducible repeat (first | refine blk_drewN ?_ _ | refine blk_drew ?_ | refine blk_alloc ?_ _)); exact BK1.out)) : gb2 ≠ gb1)); clear BK1; clear HB; have BK1 := n0_; have HB := n1_; have BK2 := n2_; have GW2 := n3_; have GE2 := n4_; have NB1_2 := n5_; have NB2_1 := n6_; clear n0_ n1_ n2_ n3_ n4_ n5_ n6_; clear hb hbox hg) | ((with_reducible refine gate_dst (N := 4) rfl ?_); refine box_event ?hg (N := 4) ?hd (cs := #[.int .u32 0, .int .u32 0]) (t := 24) ?hr ?_; (case hd => rfl); (case hg => rfl); (case hr => first | (go_simp; done) | (go_simp; rfl)); intro gb3 hg w10 hbox hb; have n0_ := Aside0.mk (blk_below (g := gb1) (o := .cells #[.int .u32 a0_0, .int .u32 a0_1] 24 (0, 0)) (by (with_reducible repeat (first | refine blk_drewN ?_ _ | refine blk_drew ?_ | refine blk_alloc ?_ _)); exact BK1.out) hb); have n1_ := Aside0.mk (blk_below (g := gb2) (o := .cells #[.int .u32 a1_0, .int .u32 a1_1] 24 (0, 0)) (by (with_reducible repeat (first | refine blk_drewN ?_ _ | refine blk_drew ?_ | refine blk_alloc ?_ _)); exact BK2.out) hb); have n2_ := Aside0.mk (below_step (by repeat (first | (with_reducible first | exact HB.out | apply below_alloc | apply pw_below_drewN | apply below_drew1 | refine below_set ?_ GE1.out | refine below_set ?_ GE2.out) | exact HB.out)) hb); have n3_ := Aside0.mk (hbox); have n4_ := Aside0.mk ((by rw [hg]; exact (below_size (by repeat (first | (with_reducible first | exact HB.out | apply below_alloc | apply pw_below_drewN | apply below_drew1 | refine below_set ?_ GE1.out | refine below_set ?_ GE2.out) | exact HB.out))) : w.heap.size ≤ gb3)); have n5_ := Aside0.mk ((by rw [hg]; exact (below_size (by repeat (first | (with_reducible first | exact HB.out | apply below_alloc | apply pw_below_drewN | apply below_drew1 | refine below_set ?_ GE1.out | refine below_set ?_ GE2.out) | exact HB.out))) : w.heap.size ≤ gb3)); have n6_ := Aside0.mk ((by rw [hg]; exact Nat.ne_of_lt (blk_lt (g := gb1) (o := .cells #[.int .u32 a0_0, .int .u32 a0_1] 24 (0, 0)) (by (with_reducible repeat (first | refine blk_drewN ?_ _ | refine blk_drew ?_ | refine blk_alloc ?_ _)); exact BK1.out)) : gb1 ≠ gb3)); have n7_ := Aside0.mk ((by rw [hg]; exact Nat.ne_of_gt (blk_lt (g := gb1) (o := .cells #[.int .u32 a0_0, .int .u32 a0_1] 24 (0, 0)) (by (with_reducible repeat (first | refine blk_drewN ?_ _ | refine blk_drew ?_ | refine blk_alloc ?_ _)); exact BK1.out)) : gb3 ≠ gb1)); have n8_ := Aside0.mk ((by rw [hg]; exact Nat.ne_of_lt (blk_lt (g := gb2) (o := .cells #[.int .u32 a1_0, .int .u32 a1_1] 24 (0, 0)) (by (with_reducible repeat (first | refine blk_drewN ?_ _ | refine blk_drew ?_ | refine blk_alloc ?_ _)); exact BK2.out)) : gb2 ≠ gb3)); have n9_ := Aside0.mk ((by rw [hg]; exact Nat.ne_of_gt (blk_lt (g := gb2) (o := .cells #[.int .u32 a1_0, .int .u32 a1_1] 24 (0, 0)) (by (with_reducible repeat (first | refine blk_drewN ?_ _ | refine blk_drew ?_ | refine blk_alloc ?_ _)); exact BK2.out)) : gb3 ≠ gb2)); clear BK1; clear BK2; clear HB; have BK1 := n0_; have BK2 := n1_; have HB := n2_; have BK3 := n3_; have GW3 := n4_; have GE3 := n5_; have NB1_3 := n6_; have NB3_1 := n7_; have NB2_3 := n8_; have NB3_2 := n9_; clear n0_ n1_ n2_ n3_ n4_ n5_ n6_ n7_ n8_ n9_; clear hb hbox hg; have hnb11 := NB1_2.out; have hnc11 := NB2_1.out; have hnb12 := NB1_3.out; have hnc12 := NB3_1.out; have hcz13_0 : w10.cell? ⟨gb1, 0, none⟩ = some (.int .u32 a0_0) := (blk_cell BK1.out 0).trans rfl; have hcz13_1 : w10.cell? ⟨gb1, 1, none⟩ = some (.int .u32 a0_1) := (blk_cell BK1.out 1).trans rfl; have hfz13_0 := blk_frozen BK1.out 0; have hfz13_1 := blk_frozen BK1.out 1; have hnb14 := NB2_3.out; have hnc14 := NB3_2.out; have hcz15_0 : w10.cell? ⟨gb2, 0, none⟩ = some (.int .u32 a1_0) := (blk_cell BK2.out 0).trans rfl; have hcz15_1 : w10.cell? ⟨gb2, 1, none⟩ = some (.int .u32 a1_1) := (blk_cell BK2.out 1).trans rfl; have hfz15_0 := blk_frozen BK2.out 0; have hfz15_1 := blk_frozen BK2.out 1; have hcz16_0 : w10.cell? ⟨gb3, 0, none⟩ = some (.int .u32 0) := (blk_cell BK3.out 0).trans rfl; have hcz16_1 : w10.cell? ⟨gb3, 1, none⟩ = some (.int .u32 0) := (blk_cell BK3.out 1).trans rfl; have hfz16_0 := blk_frozen BK3.out 0; have hfz16_1 := blk_frozen BK3.out 1)); try go_wp2_with (first | ((with_reducible refine gate_dst (N := 2) rfl ?_); refine box_event ?hg (N := 2) ?hd (cs := #[.int .u32 a0_0, .int .u32 a0_1]) (t := 24) ?hr ?_; (case hd => rfl); (case hg => rfl); (case hr => first | (go_simp; done) | (go_simp; rfl)); intro gb1 hg w8 hbox hb; have n0_ := Aside0.mk (below_step (by repeat (first | (with_reducible first | exact HB.out | apply below_alloc | apply pw_below_drewN | apply below_drew1) | exact HB.out)) hb); have n1_ := Aside0.mk (hbox); have n2_ := Aside0.mk ((by rw [hg]; exact (below_size (by repeat (first | (with_reducible first | exact HB.out | apply below_alloc | apply pw_below_drewN | apply below_drew1) | exact HB.out))) : w.heap.size ≤ gb1)); have n3_ := Aside0.mk ((by rw [hg]; exact (below_size (by repeat (first | (with_reducible first | exact HB.out | apply below_alloc | apply pw_below_drewN | apply below_drew1) | exact HB.out))) : w.heap.size ≤ gb1)); clear HB; have HB := n0_; have BK1 := n1_; have GW1 := n2_; have GE1 := n3_; clear n0_ n1_ n2_ n3_; clear hb hbox hg) | ((with_reducible refine gate_dst (N := 3) rfl ?_); refine box_event ?hg (N := 3) ?hd (cs := #[.int .u32 a1_0, .int .u32 a1_1]) (t := 24) ?hr ?_; (case hd => rfl); (case hg => rfl); (case hr => first | (go_simp; done) | (go_simp; rfl)); intro gb2 hg w9 hbox hb; have n0_ := Aside0.mk (blk_below (g := gb1) (o := .cells #[.int .u32 a0_0, .int .u32 a0_1] 24 (0, 0)) (by (with_reducible repeat (first | refine blk_drewN ?_ _ | refine blk_drew ?_ | refine blk_alloc ?_ _)); exact BK1.out) hb); have n1_ := Aside0.mk (below_step (by repeat (first | (with_reducible first | exact HB.out | apply below_alloc | apply pw_below_drewN | apply below_drew1 | refine below_set ?_ GE1.out) | exact HB.out)) hb); have n2_ := Aside0.mk (hbox); have n3_ := Aside0.mk ((by rw [hg]; exact (below_size (by repeat (first | (with_reducible first | exact HB.out | apply below_alloc | apply pw_below_drewN | apply below_drew1 | refine below_set ?_ GE1.out) | exact HB.out))) : w.heap.size ≤ gb2)); have n4_ := Aside0.mk ((by rw [hg]; exact (below_size (by repeat (first | (with_reducible first | exact HB.out | apply below_alloc | apply pw_below_drewN | apply below_drew1 | refine below_set ?_ GE1.out) | exact HB.out))) : w.heap.size ≤ gb2)); have n5_ := Aside0.mk ((by rw [hg]; exact Nat.ne_of_lt (blk_lt (g := gb1) (o := .cells #[.int .u32 a0_0, .int .u32 a0_1] 24 (0, 0)) (by (with_reducible repeat (first | refine blk_drewN ?_ _ | refine blk_drew ?_ | refine blk_alloc ?_ _)); exact BK1.out)) : gb1 ≠ gb2)); have n6_ := Aside0.mk ((by rw [hg]; exact Nat.ne_of_gt (blk_lt (g := gb1) (o := .cells #[.int .u32 a0_0, .int .u32 a0_1] 24 (0, 0)) (by (with_reducible repeat (first | refine blk_drewN ?_ _ | refine blk_drew ?_ | refine blk_alloc ?_ _)); exact BK1.out)) : gb2 ≠ gb1)); clear BK1; clear HB; have BK1 := n0_; have HB := n1_; have BK2 := n2_; have GW2 := n3_; have GE2 := n4_; have NB1_2 := n5_; have NB2_1 := n6_; clear n0_ n1_ n2_ n3_ n4_ n5_ n6_; clear hb hbox hg) | ((with_reducible refine gate_dst (N := 4) rfl ?_); refine box_event ?hg (N := 4) ?hd (cs := #[.int .u32 0, .int .u32 0]) (t := 24) ?hr ?_; (case hd => rfl); (case hg => rfl); (case hr => first | (go_simp; done) | (go_simp; rfl)); intro gb3 hg w10 hbox hb; have n0_ := Aside0.mk (blk_below (g := gb1) (o := .cells #[.int .u32 a0_0, .int .u32 a0_1] 24 (0, 0)) (by (with_reducible repeat (first | refine blk_drewN ?_ _ | refine blk_drew ?_ | refine blk_alloc ?_ _)); exact BK1.out) hb); have n1_ := Aside0.mk (blk_below (g := gb2) (o := .cells #[.int .u32 a1_0, .int .u32 a1_1] 24 (0, 0)) (by (with_reducible repeat (first | refine blk_drewN ?_ _ | refine blk_drew ?_ | refine blk_alloc ?_ _)); exact BK2.out) hb); have n2_ := Aside0.mk (below_step (by repeat (first | (with_reducible first | exact HB.out | apply below_alloc | apply pw_below_drewN | apply below_drew1 | refine below_set ?_ GE1.out | refine below_set ?_ GE2.out) | exact HB.out)) hb); have n3_ := Aside0.mk (hbox); have n4_ := Aside0.mk ((by rw [hg]; exact (below_size (by repeat (first | (with_reducible first | exact HB.out | apply below_alloc | apply pw_below_drewN | apply below_drew1 | refine below_set ?_ GE1.out | refine below_set ?_ GE2.out) | exact HB.out))) : w.heap.size ≤ gb3)); have n5_ := Aside0.mk ((by rw [hg]; exact (below_size (by repeat (first | (with_reducible first | exact HB.out | apply below_alloc | apply pw_below_drewN | apply below_drew1 | refine below_set ?_ GE1.out | refine below_set ?_ GE2.out) | exact HB.out))) : w.heap.size ≤ gb3)); have n6_ := Aside0.mk ((by rw [hg]; exact Nat.ne_of_lt (blk_lt (g := gb1) (o := .cells #[.int .u32 a0_0, .int .u32 a0_1] 24 (0, 0)) (by (with_reducible repeat (first | refine blk_drewN ?_ _ | refine blk_drew ?_ | refine blk_alloc ?_ _)); exact BK1.out)) : gb1 ≠ gb3)); have n7_ := Aside0.mk ((by rw [hg]; exact Nat.ne_of_gt (blk_lt (g := gb1) (o := .cells #[.int .u32 a0_0, .int .u32 a0_1] 24 (0, 0)) (by (with_reducible repeat (first | refine blk_drewN ?_ _ | refine blk_drew ?_ | refine blk_alloc ?_ _)); exact BK1.out)) : gb3 ≠ gb1)); have n8_ := Aside0.mk ((by rw [hg]; exact Nat.ne_of_lt (blk_lt (g := gb2) (o := .cells #[.int .u32 a1_0, .int .u32 a1_1] 24 (0, 0)) (by (with_reducible repeat (first | refine blk_drewN ?_ _ | refine blk_drew ?_ | refine blk_alloc ?_ _)); exact BK2.out)) : gb2 ≠ gb3)); have n9_ := Aside0.mk ((by rw [hg]; exact Nat.ne_of_gt (blk_lt (g := gb2) (o := .cells #[.int .u32 a1_0, .int .u32 a1_1] 24 (0, 0)) (by (with_reducible repeat (first | refine blk_drewN ?_ _ | refine blk_drew ?_ | refine blk_alloc ?_ _)); exact BK2.out)) : gb3 ≠ gb2)); clear BK1; clear BK2; clear HB; have BK1 := n0_; have BK2 := n1_; have HB := n2_; have BK3 := n3_; have GW3 := n4_; have GE3 := n5_; have NB1_3 := n6_; have NB3_1 := n7_; have NB2_3 := n8_; have NB3_2 := n9_; clear n0_ n1_ n2_ n3_ n4_ n5_ n6_ n7_ n8_ n9_; clear hb hbox hg; have hnb11 := NB1_2.out; have hnc11 := NB2_1.out; have hnb12 := NB1_3.out; have hnc12 := NB3_1.out; have hcz13_0 : w10.cell? ⟨gb1, 0, none⟩ = some (.int .u32 a0_0) := (blk_cell BK1.out 0).trans rfl; have hcz13_1 : w10.cell? ⟨gb1, 1, none⟩ = some (.int .u32 a0_1) := (blk_cell BK1.out 1).trans rfl; have hfz13_0 := blk_frozen BK1.out 0; have hfz13_1 := blk_frozen BK1.out 1; have hnb14 := NB2_3.out; have hnc14 := NB3_2.out; have hcz15_0 : w10.cell? ⟨gb2, 0, none⟩ = some (.int .u32 a1_0) := (blk_cell BK2.out 0).trans rfl; have hcz15_1 : w10.cell? ⟨gb2, 1, none⟩ = some (.int .u32 a1_1) := (blk_cell BK2.out 1).trans rfl; have hfz15_0 := blk_frozen BK2.out 0; have hfz15_1 := blk_frozen BK2.out 1; have hcz16_0 : w10.cell? ⟨gb3, 0, none⟩ = some (.int .u32 0) := (blk_cell BK3.out 0).trans rfl; have hcz16_1 : w10.cell? ⟨gb3, 1, none⟩ = some (.int .u32 0) := (blk_cell BK3.out 1).trans rfl; have hfz16_0 := blk_frozen BK3.out 0; have hfz16_1 := blk_frozen BK3.out 1)))
  refine bodyPost_ret (results_ct rfl _ _ gb3 24 #[.int .u32 0, .int .u32 0] (0, 0) _ rfl (by (with_reducible repeat (first | refine blk_drewN ?_ _ | refine blk_drew ?_ | refine blk_alloc ?_ _)); refine blk_put (cs := #[.int .u32 0, .int .u32 0]) ?_ 1 _ rfl; (with_reducible repeat (first | refine blk_drewN ?_ _ | refine blk_drew ?_ | refine blk_alloc ?_ _)); refine blk_put (cs := #[.int .u32 0, .int .u32 0]) ?_ 0 _ rfl; (with_reducible repeat (first | refine blk_drewN ?_ _ | refine blk_drew ?_ | refine blk_alloc ?_ _)); exact BK3.out) Try.underlying24 rfl (by kernel_rfl)) rfl ?_
  exact ⟨by first | rfl | (simp [errW_none, errW_some] <;> rfl) | (simp only [← hji3, ← hji4, ← hji5, ← hji6]; first | rfl | (simp [errW_none, errW_some] <;> rfl)) | (simp [*, errW_none, errW_some] <;> rfl), by repeat (first | (with_reducible first | exact HB.out | apply below_alloc | apply pw_below_drewN | apply below_drew1 | refine below_set ?_ GE1.out | refine below_set ?_ GE2.out | refine below_set ?_ GE3.out) | exact HB.out)⟩
 ·
  rw [if_neg c7] at H
  have c7b0 : decide ((ji5) < (ji3)) = false := decide_eq_false c7
  clear c7
  by_cases c17 : (ji4) > (ji6)
  ·
   rw [if_pos c17] at H
   have c17b0 : decide ((ji6) < (ji4)) = true := decide_eq_true c17
   clear c17
   simp only [Option.some.injEq, Prod.mk.injEq] at H
   obtain ⟨rfl, rfl, rfl⟩ := H
   go_enter Try.func10, Try.ntmps10
   go_wp2_with (first | ((with_reducible refine gate_dst (N := 2) rfl ?_); refine box_event ?hg (N := 2) ?hd (cs := #[.int .u32 a0_0, .int .u32 a0_1]) (t := 24) ?hr ?_; (case hd => rfl); (case hg => rfl); (case hr => first | (go_simp; done) | (go_simp; rfl)); intro gb1 hg w18 hbox hb; have n0_ := Aside0.mk (below_step (by repeat (first | (with_reducible first | exact HB.out | apply below_alloc | apply pw_below_drewN | apply below_drew1) | exact HB.out)) hb); have n1_ := Aside0.mk (hbox); have n2_ := Aside0.mk ((by rw [hg]; exact (below_size (by repeat (first | (with_reducible first | exact HB.out | apply below_alloc | apply pw_below_drewN | apply below_drew1) | exact HB.out))) : w.heap.size ≤ gb1)); have n3_ := Aside0.mk ((by rw [hg]; exact (below_size (by repeat (first | (with_reducible first | exact HB.out | apply below_alloc | apply pw_below_drewN | apply below_drew1) | exact HB.out))) : w.heap.size ≤ gb1)); clear HB; have HB := n0_; have BK1 := n1_; have GW1 := n2_; have GE1 := n3_; clear n0_ n1_ n2_ n3_; clear hb hbox hg) | ((with_reducible refine gate_dst (N := 3) rfl ?_); refine box_event ?hg (N := 3) ?hd (cs := #[.int .u32 a1_0, .int .u32 a1_1]) (t := 24) ?hr ?_; (case hd => rfl); (case hg => rfl); (case hr => first | (go_simp; done) | (go_simp; rfl)); intro gb2 hg w19 hbox hb; have n0_ := Aside0.mk (blk_below (g := gb1) (o := .cells #[.int .u32 a0_0, .int .u32 a0_1] 24 (0, 0)) (by (with_reducible repeat (first | refine blk_drewN ?_ _ | refine blk_drew ?_ | refine blk_alloc ?_ _)); exact BK1.out) hb); have n1_ := Aside0.mk (below_step (by repeat (first | (with_reducible first | exact HB.out | apply below_alloc | apply pw_below_drewN | apply below_drew1 | refine below_set ?_ GE1.out) | exact HB.out)) hb); have n2_ := Aside0.mk (hbox); have n3_ := Aside0.mk ((by rw [hg]; exact (below_size (by repeat (first | (with_reducible first | exact HB.out | apply below_alloc | apply pw_below_drewN | apply below_drew1 | refine below_set ?_ GE1.out) | exact HB.out))) : w.heap.size ≤ gb2)); have n4_ := Aside0.mk ((by rw [hg]; exact (below_size (by repeat (first | (with_reducible first | exact HB.out | apply below_alloc | apply pw_below_drewN | apply below_drew1 | refine below_set ?_ GE1.out) | exact HB.out))) : w.heap.size ≤ gb2)); have n5_ := Aside0.mk ((by rw [hg]; exact Nat.ne_of_lt (blk_lt (g := gb1) (o := .cells #[.int .u32 a0_0, .int .u32 a0_1] 24 (0, 0)) (by (with_reducible repeat (first | refine blk_drewN ?_ _ | refine blk_drew ?_ | refine blk_alloc ?_ _)); exact BK1.out)) : gb1 ≠ gb2)); have n6_ := Aside0.mk ((by rw [hg]; exact Nat.ne_of_gt (blk_lt (g := gb1) (o := .cells #[.int .u32 a0_0, .int .u32 a0_1] 24 (0, 0)) (by (with_reducible repeat (first | refine blk_drewN ?_ _ | refine blk_drew ?_ | refine blk_alloc ?_ _)); exact BK1.out)) : gb2 ≠ gb1)); clear BK1; clear HB; have BK1 := n0_; have HB := n1_; have BK2 := n2_; have GW2 := n3_; have GE2 := n4_; have NB1_2 := n5_; have NB2_1 := n6_; clear n0_ n1_ n2_ n3_ n4_ n5_ n6_; clear hb hbox hg) | ((with_reducible refine gate_dst (N := 4) rfl ?_); refine box_event ?hg (N := 4) ?hd (cs := #[.int .u32 0, .int .u32 0]) (t := 24) ?hr ?_; (case hd => rfl); (case hg => rfl); (case hr => first | (go_simp; done) | (go_simp; rfl)); intro gb3 hg w20 hbox hb; have n0_ := Aside0.mk (blk_below (g := gb1) (o := .cells #[.int .u32 a0_0, .int .u32 a0_1] 24 (0, 0)) (by (with_reducible repeat (first | refine blk_drewN ?_ _ | refine blk_drew ?_ | refine blk_alloc ?_ _)); exact BK1.out) hb); have n1_ := Aside0.mk (blk_below (g := gb2) (o := .cells #[.int .u32 a1_0, .int .u32 a1_1] 24 (0, 0)) (by (with_reducible repeat (first | refine blk_drewN ?_ _ | refine blk_drew ?_ | refine blk_alloc ?_ _)); exact BK2.out) hb); have n2_ := Aside0.mk (below_step (by repeat (first | (with_reducible first | exact HB.out | apply below_alloc | apply pw_below_drewN | apply below_drew1 | refine below_set ?_ GE1.out | refine below_set ?_ GE2.out) | exact HB.out)) hb); have n3_ := Aside0.mk (hbox); have n4_ := Aside0.mk ((by rw [hg]; exact (below_size (by repeat (first | (with_reducible first | exact HB.out | apply below_alloc | apply pw_below_drewN | apply below_drew1 | refine below_set ?_ GE1.out | refine below_set ?_ GE2.out) | exact HB.out))) : w.heap.size ≤ gb3)); have n5_ := Aside0.mk ((by rw [hg]; exact (below_size (by repeat (first | (with_reducible first | exact HB.out | apply below_alloc | apply pw_below_drewN | apply below_drew1 | refine below_set ?_ GE1.out | refine below_set ?_ GE2.out) | exact HB.out))) : w.heap.size ≤ gb3)); have n6_ := Aside0.mk ((by rw [hg]; exact Nat.ne_of_lt (blk_lt (g := gb1) (o := .cells #[.int .u32 a0_0, .int .u32 a0_1] 24 (0, 0)) (by (with_reducible repeat (first | refine blk_drewN ?_ _ | refine blk_drew ?_ | refine blk_alloc ?_ _)); exact BK1.out)) : gb1 ≠ gb3)); have n7_ := Aside0.mk ((by rw [hg]; exact Nat.ne_of_gt (blk_lt (g := gb1) (o := .cells #[.int .u32 a0_0, .int .u32 a0_1] 24 (0, 0)) (by (with_reducible repeat (first | refine blk_drewN ?_ _ | refine blk_drew ?_ | refine blk_alloc ?_ _)); exact BK1.out)) : gb3 ≠ gb1)); have n8_ := Aside0.mk ((by rw [hg]; exact Nat.ne_of_lt (blk_lt (g := gb2) (o := .cells #[.int .u32 a1_0, .int .u32 a1_1] 24 (0, 0)) (by (with_reducible repeat (first | refine blk_drewN ?_ _ | refine blk_drew ?_ | refine blk_alloc ?_ _)); exact BK2.out)) : gb2 ≠ gb3)); have n9_ := Aside0.mk ((by rw [hg]; exact Nat.ne_of_gt (blk_lt (g := gb2) (o := .cells #[.int .u32 a1_0, .int .u32 a1_1] 24 (0, 0)) (by (with_reducible repeat (first | refine blk_drewN ?_ _ | refine blk_drew ?_ | refine blk_alloc ?_ _)); exact BK2.out)) : gb3 ≠ gb2)); clear BK1; clear BK2; clear HB; have BK1 := n0_; have BK2 := n1_; have HB := n2_; have BK3 := n3_; have GW3 := n4_; have GE3 := n5_; have NB1_3 := n6_; have NB3_1 := n7_; have NB2_3 := n8_; have NB3_2 := n9_; clear n0_ n1_ n2_ n3_ n4_ n5_ n6_ n7_ n8_ n9_; clear hb hbox hg; have hnb21 := NB1_2.out; have hnc21 := NB2_1.out; have hnb22 := NB1_3.out; have hnc22 := NB3_1.out; have hcz23_0 : w20.cell? ⟨gb1, 0, none⟩ = some (.int .u32 a0_0) := (blk_cell BK1.out 0).trans rfl; have hcz23_1 : w20.cell? ⟨gb1, 1, none⟩ = some (.int .u32 a0_1) := (blk_cell BK1.out 1).trans rfl; have hfz23_0 := blk_frozen BK1.out 0; have hfz23_1 := blk_frozen BK1.out 1; have hnb24 := NB2_3.out; have hnc24 := NB3_2.out; have hcz25_0 : w20.cell? ⟨gb2, 0, none⟩ = some (.int .u32 a1_0) := (blk_cell BK2.out 0).trans rfl; have hcz25_1 : w20.cell? ⟨gb2, 1, none⟩ = some (.int .u32 a1_1) := (blk_cell BK2.out 1).trans rfl; have hfz25_0 := blk_frozen BK2.out 0; have hfz25_1 := blk_frozen BK2.out 1; have hcz26_0 : w20.cell? ⟨gb3, 0, none⟩ = some (.int .u32 0) := (blk_cell BK3.out 0).trans rfl; have hcz26_1 : w20.cell? ⟨gb3, 1, none⟩ = some (.int .u32 0) := (blk_cell BK3.out 1).trans rfl; have hfz26_0 := blk_frozen BK3.out 0; have hfz26_1 := blk_frozen BK3.out 1))
   repeat (go_quiet (first | ((with_reducible refine gate_dst (N := 2) rfl ?_); refine box_event ?hg (N := 2) ?hd (cs := #[.int .u32 a0_0, .int .u32 a0_1]) (t := 24) ?hr ?_; (case hd => rfl); (case hg => rfl); (case hr => first | (go_simp; done) | (go_simp; rfl)); intro gb1 hg w18 hbox hb; have n0_ := Aside0.mk (below_step (by repeat (first | (with_reducible first | exact HB.out | apply below_alloc | apply pw_below_drewN | apply below_drew1) | exact HB.out)) hb); have n1_ := Aside0.mk (hbox); have n2_ := Aside0.mk ((by rw [hg]; exact (below_size (by repeat (first | (with_reducible first | exact HB.out | apply below_alloc | apply pw_below_drewN | apply below_drew1) | exact HB.out))) : w.heap.size ≤ gb1)); have n3_ := Aside0.mk ((by rw [hg]; exact (below_size (by repeat (first | (with_reducible first | exact HB.out | apply below_alloc | apply pw_below_drewN | apply below_drew1) | exact HB.out))) : w.heap.size ≤ gb1)); clear HB; have HB := n0_; have BK1 := n1_; have GW1 := n2_; have GE1 := n3_; clear n0_ n1_ n2_ n3_; clear hb hbox hg) | ((with_reducible refine gate_dst (N := 3) rfl ?_); refine box_event ?hg (N := 3) ?hd (cs := #[.int .u32 a1_0, .int .u32 a1_1]) (t := 24) ?hr ?_; (case hd => rfl); (case hg => rfl); (case hr => first | (go_simp; done) | (go_simp; rfl)); intro gb2 hg w19 hbox hb; have n0_ := Aside0.mk (blk_below (g := gb1) (o := .cells #[.int .u32 a0_0, .int .u32 a0_1] 24 (0, 0)) (by (with_reducible repeat (first | refine blk_drewN ?_ _ | refine blk_drew ?_ | refine blk_alloc ?_ _)); exact BK1.out) hb); have n1_ := Aside0.mk (below_step (by repeat (first | (with_reducible first | exact HB.out | apply below_alloc | apply pw_below_drewN | apply below_drew1 | refine below_set ?_ GE1.out) | exact HB.out)) hb); have n2_ := Aside0.mk (hbox); have n3_ := Aside0.mk ((by rw [hg]; exact (below_size (by repeat (first | (with_reducible first | exact HB.out | apply below_alloc | apply pw_below_drewN | apply below_drew1 | refine below_set ?_ GE1.out) | exact HB.out))) : w.heap.size ≤ gb2)); have n4_ := Aside0.mk ((by rw [hg]; exact (below_size (by repeat (first | (with_reducible first | exact HB.out | apply below_alloc | apply pw_below_drewN | apply below_drew1 | refine below_set ?_ GE1.out) | exact HB.out))) : w.heap.size ≤ gb2)); have n5_ := Aside0.mk ((by rw [hg]; exact Nat.ne_of_lt (blk_lt (g := gb1) (o := .cells #[.int .u32 a0_0, .int .u32 a0_1] 24 (0, 0)) (by (with_reducible repeat (first | refine blk_drewN ?_ _ | refine blk_drew ?_ | refine blk_alloc ?_ _)); exact BK1.out)) : gb1 ≠ gb2)); have n6_ := Aside0.mk ((by rw [hg]; exact Nat.ne_of_gt (blk_lt (g := gb1) (o := .cells #[.int .u32 a0_0, .int .u32 a0_1] 24 (0, 0)) (by (with_reducible repeat (first | refine blk_drewN ?_ _ | refine blk_drew ?_ | refine blk_alloc ?_ _)); exact BK1.out)) : gb2 ≠ gb1)); clear BK1; clear HB; have BK1 := n0_; have HB := n1_; have BK2 := n2_; have GW2 := n3_; have GE2 := n4_; have NB1_2 := n5_; have NB2_1 := n6_; clear n0_ n1_ n2_ n3_ n4_ n5_ n6_; clear hb hbox hg) | ((with_reducible refine gate_dst (N := 4) rfl ?_); refine box_event ?hg (N := 4) ?hd (cs := #[.int .u32 0, .int .u32 0]) (t := 24) ?hr ?_; (case hd => rfl); (case hg => rfl); (case hr => first | (go_simp; done) | (go_simp; rfl)); intro gb3 hg w20 hbox hb; have n0_ := Aside0.mk (blk_below (g := gb1) (o := .cells #[.int .u32 a0_0, .int .u32 a0_1] 24 (0, 0)) (by (with_reducible repeat (first | refine blk_drewN ?_ _ | refine blk_drew ?_ | refine blk_alloc ?_ _)); exact BK1.out) hb); have n1_ := Aside0.mk (blk_below (g := gb2) (o := .cells #[.int .u32 a1_0, .int .u32 a1_1] 24 (0, 0)) (by (with_reducible repeat (first | refine blk_drewN ?_ _ | refine blk_drew ?_ | refine blk_alloc ?_ _)); exact BK2.out) hb); have n2_ := Aside0.mk (below_step (by repeat (first | (with_reducible first | exact HB.out | apply below_alloc | apply pw_below_drewN | apply below_drew1 | refine below_set ?_ GE1.out | refine below_set ?_ GE2.out) | exact HB.out)) hb); have n3_ := Aside0.mk (hbox); have n4_ := Aside0.mk ((by rw [hg]; exact (below_size (by repeat (first | (with_reducible first | exact HB.out | apply below_alloc | apply pw_below_drewN | apply below_drew1 | refine below_set ?_ GE1.out | refine below_set ?_ GE2.out) | exact HB.out))) : w.heap.size ≤ gb3)); have n5_ := Aside0.mk ((by rw [hg]; exact (below_size (by repeat (first | (with_reducible first | exact HB.out | apply below_alloc | apply pw_below_drewN | apply below_drew1 | refine below_set ?_ GE1.out | refine below_set ?_ GE2.out) | exact HB.out))) : w.heap.size ≤ gb3)); have n6_ := Aside0.mk ((by rw [hg]; exact Nat.ne_of_lt (blk_lt (g := gb1) (o := .cells #[.int .u32 a0_0, .int .u32 a0_1] 24 (0, 0)) (by (with_reducible repeat (first | refine blk_drewN ?_ _ | refine blk_drew ?_ | refine blk_alloc ?_ _)); exact BK1.out)) : gb1 ≠ gb3)); have n7_ := Aside0.mk ((by rw [hg]; exact Nat.ne_of_gt (blk_lt (g := gb1) (o := .cells #[.int .u32 a0_0, .int .u32 a0_1] 24 (0, 0)) (by (with_reducible repeat (first | refine blk_drewN ?_ _ | refine blk_drew ?_ | refine blk_alloc ?_ _)); exact BK1.out)) : gb3 ≠ gb1)); have n8_ := Aside0.mk ((by rw [hg]; exact Nat.ne_of_lt (blk_lt (g := gb2) (o := .cells #[.int .u32 a1_0, .int .u32 a1_1] 24 (0, 0)) (by (with_reducible repeat (first | refine blk_drewN ?_ _ | refine blk_drew ?_ | refine blk_alloc ?_ _)); exact BK2.out)) : gb2 ≠ gb3)); have n9_ := Aside0.mk ((by rw [hg]; exact Nat.ne_of_gt (blk_lt (g := gb2) (o := .cells #[.int .u32 a1_0, .int .u32 a1_1] 24 (0, 0)) (by (with_reducible repeat (first | refine blk_drewN ?_ _ | refine blk_drew ?_ | refine blk_alloc ?_ _)); exact BK2.out)) : gb3 ≠ gb2)); clear BK1; clear BK2; clear HB; have BK1 := n0_; have BK2 := n1_; have HB := n2_; have BK3 := n3_; have GW3 := n4_; have GE3 := n5_; have NB1_3 := n6_; have NB3_1 := n7_; have NB2_3 := n8_; have NB3_2 := n9_; clear n0_ n1_ n2_ n3_ n4_ n5_ n6_ n7_ n8_ n9_; clear hb hbox hg; have hnb21 := NB1_2.out; have hnc21 := NB2_1.out; have hnb22 := NB1_3.out; have hnc22 := NB3_1.out; have hcz23_0 : w20.cell? ⟨gb1, 0, none⟩ = some (.int .u32 a0_0) := (blk_cell BK1.out 0).trans rfl; have hcz23_1 : w20.cell? ⟨gb1, 1, none⟩ = some (.int .u32 a0_1) := (blk_cell BK1.out 1).trans rfl; have hfz23_0 := blk_frozen BK1.out 0; have hfz23_1 := blk_frozen BK1.out 1; have hnb24 := NB2_3.out; have hnc24 := NB3_2.out; have hcz25_0 : w20.cell? ⟨gb2, 0, none⟩ = some (.int .u32 a1_0) := (blk_cell BK2.out 0).trans rfl; have hcz25_1 : w20.cell? ⟨gb2, 1, none⟩ = some (.int .u32 a1_1) := (blk_cell BK2.out 1).trans rfl; have hfz25_0 := blk_frozen BK2.out 0; have hfz25_1 := blk_frozen BK2.out 1; have hcz26_0 : w20.cell? ⟨gb3, 0, none⟩ = some (.int .u32 0) := (blk_cell BK3.out 0).trans rfl; have hcz26_1 : w20.cell? ⟨gb3, 1, none⟩ = some (.int .u32 0) := (blk_cell BK3.out 1).trans rfl; have hfz26_0 := blk_frozen BK3.out 0; have hfz26_1 := blk_frozen BK3.out 1)); try go_wp2_with (first | ((with_reducible refine gate_dst (N := 2) rfl ?_); refine box_event ?hg (N := 2) ?hd (cs := #[.int .u32 a0_0, .int .u32 a0_1]) (t := 24) ?hr ?_; (case hd => rfl); (case hg => rfl); (case hr => first | (go_simp; done) | (go_simp; rfl)); intro gb1 hg w18 hbox hb; have n0_ := Aside0.mk (below_step (by repeat (first | (with_reducible first | exact HB.out | apply below_alloc | apply pw_below_drewN | apply below_drew1) | exact HB.out)) hb); have n1_ := Aside0.mk (hbox); have n2_ := Aside0.mk ((by rw [hg]; exact (below_size (by repeat (first | (with_reducible first | exact HB.out | apply below_alloc | apply pw_below_drewN | apply below_drew1) | exact HB.out))) : w.heap.size ≤ gb1)); have n3_ := Aside0.mk ((by rw [hg]; exact (below_size (by repeat (first | (with_reducible first | exact HB.out | apply below_alloc | apply pw_below_drewN | apply below_drew1) | exact HB.out))) : w.heap.size ≤ gb1)); clear HB; have HB := n0_; have BK1 := n1_; have GW1 := n2_; have GE1 := n3_; clear n0_ n1_ n2_ n3_; clear hb hbox hg) | ((with_reducible refine gate_dst (N := 3) rfl ?_); refine box_event ?hg (N := 3) ?hd (cs := #[.int .u32 a1_0, .int .u32 a1_1]) (t := 24) ?hr ?_; (case hd => rfl); (case hg => rfl); (case hr => first | (go_simp; done) | (go_simp; rfl)); intro gb2 hg w19 hbox hb; have n0_ := Aside0.mk (blk_below (g := gb1) (o := .cells #[.int .u32 a0_0, .int .u32 a0_1] 24 (0, 0)) (by (with_reducible repeat (first | refine blk_drewN ?_ _ | refine blk_drew ?_ | refine blk_alloc ?_ _)); exact BK1.out) hb); have n1_ := Aside0.mk (below_step (by repeat (first | (with_reducible first | exact HB.out | apply below_alloc | apply pw_below_drewN | apply below_drew1 | refine below_set ?_ GE1.out) | exact HB.out)) hb); have n2_ := Aside0.mk (hbox); have n3_ := Aside0.mk ((by rw [hg]; exact (below_size (by repeat (first | (with_reducible first | exact HB.out | apply below_alloc | apply pw_below_drewN | apply below_drew1 | refine below_set ?_ GE1.out) | exact HB.out))) : w.heap.size ≤ gb2)); have n4_ := Aside0.mk ((by rw [hg]; exact (below_size (by repeat (first | (with_reducible first | exact HB.out | apply below_alloc | apply pw_below_drewN | apply below_drew1 | refine below_set ?_ GE1.out) | exact HB.out))) : w.heap.size ≤ gb2)); have n5_ := Aside0.mk ((by rw [hg]; exact Nat.ne_of_lt (blk_lt (g := gb1) (o := .cells #[.int .u32 a0_0, .int .u32 a0_1] 24 (0, 0)) (by (with_reducible repeat (first | refine blk_drewN ?_ _ | refine blk_drew ?_ | refine blk_alloc ?_ _)); exact BK1.out)) : gb1 ≠ gb2)); have n6_ := Aside0.mk ((by rw [hg]; exact Nat.ne_of_gt (blk_lt (g := gb1) (o := .cells #[.int .u32 a0_0, .int .u32 a0_1] 24 (0, 0)) (by (with_reducible repeat (first | refine blk_drewN ?_ _ | refine blk_drew ?_ | refine blk_alloc ?_ _)); exact BK1.out)) : gb2 ≠ gb1)); clear BK1; clear HB; have BK1 := n0_; have HB := n1_; have BK2 := n2_; have GW2 := n3_; have GE2 := n4_; have NB1_2 := n5_; have NB2_1 := n6_; clear n0_ n1_ n2_ n3_ n4_ n5_ n6_; clear hb hbox hg) | ((with_reducible refine gate_dst (N := 4) rfl ?_); refine box_event ?hg (N := 4) ?hd (cs := #[.int .u32 0, .int .u32 0]) (t := 24) ?hr ?_; (case hd => rfl); (case hg => rfl); (case hr => first | (go_simp; done) | (go_simp; rfl)); intro gb3 hg w20 hbox hb; have n0_ := Aside0.mk (blk_below (g := gb1) (o := .cells #[.int .u32 a0_0, .int .u32 a0_1] 24 (0, 0)) (by (with_reducible repeat (first | refine blk_drewN ?_ _ | refine blk_drew ?_ | refine blk_alloc ?_ _)); exact BK1.out) hb); have n1_ := Aside0.mk (blk_below (g := gb2) (o := .cells #[.int .u32 a1_0, .int .u32 a1_1] 24 (0, 0)) (by (with_reducible repeat (first | refine blk_drewN ?_ _ | refine blk_drew ?_ | refine blk_alloc ?_ _)); exact BK2.out) hb); have n2_ := Aside0.mk (below_step (by repeat (first | (with_reducible first | exact HB.out | apply below_alloc | apply pw_below_drewN | apply below_drew1 | refine below_set ?_ GE1.out | refine below_set ?_ GE2.out) | exact HB.out)) hb); have n3_ := Aside0.mk (hbox); have n4_ := Aside0.mk ((by rw [hg]; exact (below_size (by repeat (first | (with_reducible first | exact HB.out | apply below_alloc | apply pw_below_drewN | apply below_drew1 | refine below_set ?_ GE1.out | refine below_set ?_ GE2.out) | exact HB.out))) : w.heap.size ≤ gb3)); have n5_ := Aside0.mk ((by rw [hg]; exact (below_size (by repeat (first | (with_reducible first | exact HB.out | apply below_alloc | apply pw_below_drewN | apply below_drew1 | refine below_set ?_ GE1.out | refine below_set ?_ GE2.out) | exact HB.out))) : w.heap.size ≤ gb3)); have n6_ := Aside0.mk ((by rw [hg]; exact Nat.ne_of_lt (blk_lt (g := gb1) (o := .cells #[.int .u32 a0_0, .int .u32 a0_1] 24 (0, 0)) (by (with_reducible repeat (first | refine blk_drewN ?_ _ | refine blk_drew ?_ | refine blk_alloc ?_ _)); exact BK1.out)) : gb1 ≠ gb3)); have n7_ := Aside0.mk ((by rw [hg]; exact Nat.ne_of_gt (blk_lt (g := gb1) (o := .cells #[.int .u32 a0_0, .int .u32 a0_1] 24 (0, 0)) (by (with_reducible repeat (first | refine blk_drewN ?_ _ | refine blk_drew ?_ | refine blk_alloc ?_ _)); exact BK1.out)) : gb3 ≠ gb1)); have n8_ := Aside0.mk ((by rw [hg]; exact Nat.ne_of_lt (blk_lt (g := gb2) (o := .cells #[.int .u32 a1_0, .int .u32 a1_1] 24 (0, 0)) (by (with_reducible repeat (first | refine blk_drewN ?_ _ | refine blk_drew ?_ | refine blk_alloc ?_ _)); exact BK2.out)) : gb2 ≠ gb3)); have n9_ := Aside0.mk ((by rw [hg]; exact Nat.ne_of_gt (blk_lt (g := gb2) (o := .cells #[.int .u32 a1_0, .int .u32 a1_1] 24 (0, 0)) (by (with_reducible repeat (first | refine blk_drewN ?_ _ | refine blk_drew ?_ | refine blk_alloc ?_ _)); exact BK2.out)) : gb3 ≠ gb2)); clear BK1; clear BK2; clear HB; have BK1 := n0_; have BK2 := n1_; have HB := n2_; have BK3 := n3_; have GW3 := n4_; have GE3 := n5_; have NB1_3 := n6_; have NB3_1 := n7_; have NB2_3 := n8_; have NB3_2 := n9_; clear n0_ n1_ n2_ n3_ n4_ n5_ n6_ n7_ n8_ n9_; clear hb hbox hg; have hnb21 := NB1_2.out; have hnc21 := NB2_1.out; have hnb22 := NB1_3.out; have hnc22 := NB3_1.out; have hcz23_0 : w20.cell? ⟨gb1, 0, none⟩ = some (.int .u32 a0_0) := (blk_cell BK1.out 0).trans rfl; have hcz23_1 : w20.cell? ⟨gb1, 1, none⟩ = some (.int .u32 a0_1) := (blk_cell BK1.out 1).trans rfl; have hfz23_0 := blk_frozen BK1.out 0; have hfz23_1 := blk_frozen BK1.out 1; have hnb24 := NB2_3.out; have hnc24 := NB3_2.out; have hcz25_0 : w20.cell? ⟨gb2, 0, none⟩ = some (.int .u32 a1_0) := (blk_cell BK2.out 0).trans rfl; have hcz25_1 : w20.cell? ⟨gb2, 1, none⟩ = some (.int .u32 a1_1) := (blk_cell BK2.out 1).trans rfl; have hfz25_0 := blk_frozen BK2.out 0; have hfz25_1 := blk_frozen BK2.out 1; have hcz26_0 : w20.cell? ⟨gb3, 0, none⟩ = some (.int .u32 0) := (blk_cell BK3.out 0).trans rfl; have hcz26_1 : w20.cell? ⟨gb3, 1, none⟩ = some (.int .u32 0) := (blk_cell BK3.out 1).trans rfl; have hfz26_0 := blk_frozen BK3.out 0; have hfz26_1 := blk_frozen BK3.out 1)))
   refine bodyPost_ret (results_ct rfl _ _ gb3 24 #[.int .u32 0, .int .u32 0] (0, 0) _ rfl (by (with_reducible repeat (first | refine blk_drewN ?_ _ | refine blk_drew ?_ | refine blk_alloc ?_ _)); refine blk_put (cs := #[.int .u32 0, .int .u32 0]) ?_ 1 _ rfl; (with_reducible repeat (first | refine blk_drewN ?_ _ | refine blk_drew ?_ | refine blk_alloc ?_ _)); refine blk_put (cs := #[.int .u32 0, .int .u32 0]) ?_ 0 _ rfl; (with_reducible repeat (first | refine blk_drewN ?_ _ | refine blk_drew ?_ | refine blk_alloc ?_ _)); exact BK3.out) Try.underlying24 rfl (by kernel_rfl)) rfl ?_
   exact ⟨by first | rfl | (simp [errW_none, errW_some] <;> rfl) | (simp only [← hji3, ← hji4, ← hji5, ← hji6]; first | rfl | (simp [errW_none, errW_some] <;> rfl)) | (simp [*, errW_none, errW_some] <;> rfl), by repeat (first | (with_reducible first | exact HB.out | apply below_alloc | apply pw_below_drewN | apply below_drew1 | refine below_set ?_ GE1.out | refine below_set ?_ GE2.out | refine below_set ?_ GE3.out) | exact HB.out)⟩
  ·
   rw [if_neg c17] at H
   have c17b0 : decide ((ji6) < (ji4)) = false := decide_eq_false c17
   clear c17
   simp only [Option.some.injEq, Prod.mk.injEq] at H
   obtain ⟨rfl, rfl, rfl⟩ := H
   go_enter Try.func10, Try.ntmps10
   go_wp2_with (first | ((with_reducible refine gate_dst (N := 2) rfl ?_); refine box_event ?hg (N := 2) ?hd (cs := #[.int .u32 a0_0, .int .u32 a0_1]) (t := 24) ?hr ?_; (case hd => rfl); (case hg => rfl); (case hr => first | (go_simp; done) | (go_simp; rfl)); intro gb1 hg w27 hbox hb; have n0_ := Aside0.mk (below_step (by repeat (first | (with_reducible first | exact HB.out | apply below_alloc | apply pw_below_drewN | apply below_drew1) | exact HB.out)) hb); have n1_ := Aside0.mk (hbox); have n2_ := Aside0.mk ((by rw [hg]; exact (below_size (by repeat (first | (with_reducible first | exact HB.out | apply below_alloc | apply pw_below_drewN | apply below_drew1) | exact HB.out))) : w.heap.size ≤ gb1)); have n3_ := Aside0.mk ((by rw [hg]; exact (below_size (by repeat (first | (with_reducible first | exact HB.out | apply below_alloc | apply pw_below_drewN | apply below_drew1) | exact HB.out))) : w.heap.size ≤ gb1)); clear HB; have HB := n0_; have BK1 := n1_; have GW1 := n2_; have GE1 := n3_; clear n0_ n1_ n2_ n3_; clear hb hbox hg) | ((with_reducible refine gate_dst (N := 3) rfl ?_); refine box_event ?hg (N := 3) ?hd (cs := #[.int .u32 a1_0, .int .u32 a1_1]) (t := 24) ?hr ?_; (case hd => rfl); (case hg => rfl); (case hr => first | (go_simp; done) | (go_simp; rfl)); intro gb2 hg w28 hbox hb; have n0_ := Aside0.mk (blk_below (g := gb1) (o := .cells #[.int .u32 a0_0, .int .u32 a0_1] 24 (0, 0)) (by (with_reducible repeat (first | refine blk_drewN ?_ _ | refine blk_drew ?_ | refine blk_alloc ?_ _)); exact BK1.out) hb); have n1_ := Aside0.mk (below_step (by repeat (first | (with_reducible first | exact HB.out | apply below_alloc | apply pw_below_drewN | apply below_drew1 | refine below_set ?_ GE1.out) | exact HB.out)) hb); have n2_ := Aside0.mk (hbox); have n3_ := Aside0.mk ((by rw [hg]; exact (below_size (by repeat (first | (with_reducible first | exact HB.out | apply below_alloc | apply pw_below_drewN | apply below_drew1 | refine below_set ?_ GE1.out) | exact HB.out))) : w.heap.size ≤ gb2)); have n4_ := Aside0.mk ((by rw [hg]; exact (below_size (by repeat (first | (with_reducible first | exact HB.out | apply below_alloc | apply pw_below_drewN | apply below_drew1 | refine below_set ?_ GE1.out) | exact HB.out))) : w.heap.size ≤ gb2)); have n5_ := Aside0.mk ((by rw [hg]; exact Nat.ne_of_lt (blk_lt (g := gb1) (o := .cells #[.int .u32 a0_0, .int .u32 a0_1] 24 (0, 0)) (by (with_reducible repeat (first | refine blk_drewN ?_ _ | refine blk_drew ?_ | refine blk_alloc ?_ _)); exact BK1.out)) : gb1 ≠ gb2)); have n6_ := Aside0.mk ((by rw [hg]; exact Nat.ne_of_gt (blk_lt (g := gb1) (o := .cells #[.int .u32 a0_0, .int .u32 a0_1] 24 (0, 0)) (by (with_reducible repeat (first | refine blk_drewN ?_ _ | refine blk_drew ?_ | refine blk_alloc ?_ _)); exact BK1.out)) : gb2 ≠ gb1)); clear BK1; clear HB; have BK1 := n0_; have HB := n1_; have BK2 := n2_; have GW2 := n3_; have GE2 := n4_; have NB1_2 := n5_; have NB2_1 := n6_; clear n0_ n1_ n2_ n3_ n4_ n5_ n6_; clear hb hbox hg) | ((with_reducible refine gate_dst (N := 4) rfl ?_); refine box_event ?hg (N := 4) ?hd (cs := #[.int .u32 0, .int .u32 0]) (t := 24) ?hr ?_; (case hd => rfl); (case hg => rfl); (case hr => first | (go_simp; done) | (go_simp; rfl)); intro gb3 hg w29 hbox hb; have n0_ := Aside0.mk (blk_below (g := gb1) (o := .cells #[.int .u32 a0_0, .int .u32 a0_1] 24 (0, 0)) (by (with_reducible repeat (first | refine blk_drewN ?_ _ | refine blk_drew ?_ | refine blk_alloc ?_ _)); exact BK1.out) hb); have n1_ := Aside0.mk (blk_below (g := gb2) (o := .cells #[.int .u32 a1_0, .int .u32 a1_1] 24 (0, 0)) (by (with_reducible repeat (first | refine blk_drewN ?_ _ | refine blk_drew ?_ | refine blk_alloc ?_ _)); exact BK2.out) hb); have n2_ := Aside0.mk (below_step (by repeat (first | (with_reducible first | exact HB.out | apply below_alloc | apply pw_below_drewN | apply below_drew1 | refine below_set ?_ GE1.out | refine below_set ?_ GE2.out) | exact HB.out)) hb); have n3_ := Aside0.mk (hbox); have n4_ := Aside0.mk ((by rw [hg]; exact (below_size (by repeat (first | (with_reducible first | exact HB.out | apply below_alloc | apply pw_below_drewN | apply below_drew1 | refine below_set ?_ GE1.out | refine below_set ?_ GE2.out) | exact HB.out))) : w.heap.size ≤ gb3)); have n5_ := Aside0.mk ((by rw [hg]; exact (below_size (by repeat (first | (with_reducible first | exact HB.out | apply below_alloc | apply pw_below_drewN | apply below_drew1 | refine below_set ?_ GE1.out | refine below_set ?_ GE2.out) | exact HB.out))) : w.heap.size ≤ gb3)); have n6_ := Aside0.mk ((by rw [hg]; exact Nat.ne_of_lt (blk_lt (g := gb1) (o := .cells #[.int .u32 a0_0, .int .u32 a0_1] 24 (0, 0)) (by (with_reducible repeat (first | refine blk_drewN ?_ _ | refine blk_drew ?_ | refine blk_alloc ?_ _)); exact BK1.out)) : gb1 ≠ gb3)); have n7_ := Aside0.mk ((by rw [hg]; exact Nat.ne_of_gt (blk_lt (g := gb1) (o := .cells #[.int .u32 a0_0, .int .u32 a0_1] 24 (0, 0)) (by (with_reducible repeat (first | refine blk_drewN ?_ _ | refine blk_drew ?_ | refine blk_alloc ?_ _)); exact BK1.out)) : gb3 ≠ gb1)); have n8_ := Aside0.mk ((by rw [hg]; exact Nat.ne_of_lt (blk_lt (g := gb2) (o := .cells #[.int .u32 a1_0, .int .u32 a1_1] 24 (0, 0)) (by (with_reducible repeat (first | refine blk_drewN ?_ _ | refine blk_drew ?_ | refine blk_alloc ?_ _)); exact BK2.out)) : gb2 ≠ gb3)); have n9_ := Aside0.mk ((by rw [hg]; exact Nat.ne_of_gt (blk_lt (g := gb2) (o := .cells #[.int .u32 a1_0, .int .u32 a1_1] 24 (0, 0)) (by (with_reducible repeat (first | refine blk_drewN ?_ _ | refine blk_drew ?_ | refine blk_alloc ?_ _)); exact BK2.out)) : gb3 ≠ gb2)); clear BK1; clear BK2; clear HB; have BK1 := n0_; have BK2 := n1_; have HB := n2_; have BK3 := n3_; have GW3 := n4_; have GE3 := n5_; have NB1_3 := n6_; have NB3_1 := n7_; have NB2_3 := n8_; have NB3_2 := n9_; clear n0_ n1_ n2_ n3_ n4_ n5_ n6_ n7_ n8_ n9_; clear hb hbox hg; have hnb30 := NB1_2.out; have hnc30 := NB2_1.out; have hnb31 := NB1_3.out; have hnc31 := NB3_1.out; have hcz32_0 : w29.cell? ⟨gb1, 0, none⟩ = some (.int .u32 a0_0) := (blk_cell BK1.out 0).trans rfl; have hcz32_1 : w29.cell? ⟨gb1, 1, none⟩ = some (.int .u32 a0_1) := (blk_cell BK1.out 1).trans rfl; have hfz32_0 := blk_frozen BK1.out 0; have hfz32_1 := blk_frozen BK1.out 1; have hnb33 := NB2_3.out; have hnc33 := NB3_2.out; have hcz34_0 : w29.cell? ⟨gb2, 0, none⟩ = some (.int .u32 a1_0) := (blk_cell BK2.out 0).trans rfl; have hcz34_1 : w29.cell? ⟨gb2, 1, none⟩ = some (.int .u32 a1_1) := (blk_cell BK2.out 1).trans rfl; have hfz34_0 := blk_frozen BK2.out 0; have hfz34_1 := blk_frozen BK2.out 1; have hcz35_0 : w29.cell? ⟨gb3, 0, none⟩ = some (.int .u32 0) := (blk_cell BK3.out 0).trans rfl; have hcz35_1 : w29.cell? ⟨gb3, 1, none⟩ = some (.int .u32 0) := (blk_cell BK3.out 1).trans rfl; have hfz35_0 := blk_frozen BK3.out 0; have hfz35_1 := blk_frozen BK3.out 1))
   repeat (go_quiet (first | ((with_reducible refine gate_dst (N := 2) rfl ?_); refine box_event ?hg (N := 2) ?hd (cs := #[.int .u32 a0_0, .int .u32 a0_1]) (t := 24) ?hr ?_; (case hd => rfl); (case hg => rfl); (case hr => first | (go_simp; done) | (go_simp; rfl)); intro gb1 hg w27 hbox hb; have n0_ := Aside0.mk (below_step (by repeat (first | (with_reducible first | exact HB.out | apply below_alloc | apply pw_below_drewN | apply below_drew1) | exact HB.out)) hb); have n1_ := Aside0.mk (hbox); have n2_ := Aside0.mk ((by rw [hg]; exact (below_size (by repeat (first | (with_reducible first | exact HB.out | apply below_alloc | apply pw_below_drewN | apply below_drew1) | exact HB.out))) : w.heap.size ≤ gb1)); have n3_ := Aside0.mk ((by rw [hg]; exact (below_size (by repeat (first | (with_reducible first | exact HB.out | apply below_alloc | apply pw_below_drewN | apply below_drew1) | exact HB.out))) : w.heap.size ≤ gb1)); clear HB; have HB := n0_; have BK1 := n1_; have GW1 := n2_; have GE1 := n3_; clear n0_ n1_ n2_ n3_; clear hb hbox hg) | ((with_reducible refine gate_dst (N := 3) rfl ?_); refine box_event ?hg (N := 3) ?hd (cs := #[.int .u32 a1_0, .int .u32 a1_1]) (t := 24) ?hr ?_; (case hd => rfl); (case hg => rfl); (case hr => first | (go_simp; done) | (go_simp; rfl)); intro gb2 hg w28 hbox hb; have n0_ := Aside0.mk (blk_below (g := gb1) (o := .cells #[.int .u32 a0_0, .int .u32 a0_1] 24 (0, 0)) (by (with_reducible repeat (first | refine blk_drewN ?_ _ | refine blk_drew ?_ | refine blk_alloc ?_ _)); exact BK1.out) hb); have n1_ := Aside0.mk (below_step (by repeat (first | (with_reducible first | exact HB.out | apply below_alloc | apply pw_below_drewN | apply below_drew1 | refine below_set ?_ GE1.out) | exact HB.out)) hb); have n2_ := Aside0.mk (hbox); have n3_ := Aside0.mk ((by rw [hg]; exact (below_size (by repeat (first | (with_reducible first | exact HB.out | apply below_alloc | apply pw_below_drewN | apply below_drew1 | refine below_set ?_ GE1.out) | exact HB.out))) : w.heap.size ≤ gb2)); have n4_ := Aside0.mk ((by rw [hg]; exact (below_size (by repeat (first | (with_reducible first | exact HB.out | apply below_alloc | apply pw_below_drewN | apply below_drew1 | refine below_set ?_ GE1.out) | exact HB.out))) : w.heap.size ≤ gb2)); have n5_ := Aside0.mk ((by rw [hg]; exact Nat.ne_of_lt (blk_lt (g := gb1) (o := .cells #[.int .u32 a0_0, .int .u32 a0_1] 24 (0, 0)) (by (with_reducible repeat (first | refine blk_drewN ?_ _ | refine blk_drew ?_ | refine blk_alloc ?_ _)); exact BK1.out)) : gb1 ≠ gb2)); have n6_ := Aside0.mk ((by rw [hg]; exact Nat.ne_of_gt (blk_lt (g := gb1) (o := .cells #[.int .u32 a0_0, .int .u32 a0_1] 24 (0, 0)) (by (with_reducible repeat (first | refine blk_drewN ?_ _ | refine blk_drew ?_ | refine blk_alloc ?_ _)); exact BK1.out)) : gb2 ≠ gb1)); clear BK1; clear HB; have BK1 := n0_; have HB := n1_; have BK2 := n2_; have GW2 := n3_; have GE2 := n4_; have NB1_2 := n5_; have NB2_1 := n6_; clear n0_ n1_ n2_ n3_ n4_ n5_ n6_; clear hb hbox hg) | ((with_reducible refine gate_dst (N := 4) rfl ?_); refine box_event ?hg (N := 4) ?hd (cs := #[.int .u32 0, .int .u32 0]) (t := 24) ?hr ?_; (case hd => rfl); (case hg => rfl); (case hr => first | (go_simp; done) | (go_simp; rfl)); intro gb3 hg w29 hbox hb; have n0_ := Aside0.mk (blk_below (g := gb1) (o := .cells #[.int .u32 a0_0, .int .u32 a0_1] 24 (0, 0)) (by (with_reducible repeat (first | refine blk_drewN ?_ _ | refine blk_drew ?_ | refine blk_alloc ?_ _)); exact BK1.out) hb); have n1_ := Aside0.mk (blk_below (g := gb2) (o := .cells #[.int .u32 a1_0, .int .u32 a1_1] 24 (0, 0)) (by (with_reducible repeat (first | refine blk_drewN ?_ _ | refine blk_drew ?_ | refine blk_alloc ?_ _)); exact BK2.out) hb); have n2_ := Aside0.mk (below_step (by repeat (first | (with_reducible first | exact HB.out | apply below_alloc | apply pw_below_drewN | apply below_drew1 | refine below_set ?_ GE1.out | refine below_set ?_ GE2.out) | exact HB.out)) hb); have n3_ := Aside0.mk (hbox); have n4_ := Aside0.mk ((by rw [hg]; exact (below_size (by repeat (first | (with_reducible first | exact HB.out | apply below_alloc | apply pw_below_drewN | apply below_drew1 | refine below_set ?_ GE1.out | refine below_set ?_ GE2.out) | exact HB.out))) : w.heap.size ≤ gb3)); have n5_ := Aside0.mk ((by rw [hg]; exact (below_size (by repeat (first | (with_reducible first | exact HB.out | apply below_alloc | apply pw_below_drewN | apply below_drew1 | refine below_set ?_ GE1.out | refine below_set ?_ GE2.out) | exact HB.out))) : w.heap.size ≤ gb3)); have n6_ := Aside0.mk ((by rw [hg]; exact Nat.ne_of_lt (blk_lt (g := gb1) (o := .cells #[.int .u32 a0_0, .int .u32 a0_1] 24 (0, 0)) (by (with_reducible repeat (first | refine blk_drewN ?_ _ | refine blk_drew ?_ | refine blk_alloc ?_ _)); exact BK1.out)) : gb1 ≠ gb3)); have n7_ := Aside0.mk ((by rw [hg]; exact Nat.ne_of_gt (blk_lt (g := gb1) (o := .cells #[.int .u32 a0_0, .int .u32 a0_1] 24 (0, 0)) (by (with_reducible repeat (first | refine blk_drewN ?_ _ | refine blk_drew ?_ | refine blk_alloc ?_ _)); exact BK1.out)) : gb3 ≠ gb1)); have n8_ := Aside0.mk ((by rw [hg]; exact Nat.ne_of_lt (blk_lt (g := gb2) (o := .cells #[.int .u32 a1_0, .int .u32 a1_1] 24 (0, 0)) (by (with_reducible repeat (first | refine blk_drewN ?_ _ | refine blk_drew ?_ | refine blk_alloc ?_ _)); exact BK2.out)) : gb2 ≠ gb3)); have n9_ := Aside0.mk ((by rw [hg]; exact Nat.ne_of_gt (blk_lt (g := gb2) (o := .cells #[.int .u32 a1_0, .int .u32 a1_1] 24 (0, 0)) (by (with_reducible repeat (first | refine blk_drewN ?_ _ | refine blk_drew ?_ | refine blk_alloc ?_ _)); exact BK2.out)) : gb3 ≠ gb2)); clear BK1; clear BK2; clear HB; have BK1 := n0_; have BK2 := n1_; have HB := n2_; have BK3 := n3_; have GW3 := n4_; have GE3 := n5_; have NB1_3 := n6_; have NB3_1 := n7_; have NB2_3 := n8_; have NB3_2 := n9_; clear n0_ n1_ n2_ n3_ n4_ n5_ n6_ n7_ n8_ n9_; clear hb hbox hg; have hnb30 := NB1_2.out; have hnc30 := NB2_1.out; have hnb31 := NB1_3.out; have hnc31 := NB3_1.out; have hcz32_0 : w29.cell? ⟨gb1, 0, none⟩ = some (.int .u32 a0_0) := (blk_cell BK1.out 0).trans rfl; have hcz32_1 : w29.cell? ⟨gb1, 1, none⟩ = some (.int .u32 a0_1) := (blk_cell BK1.out 1).trans rfl; have hfz32_0 := blk_frozen BK1.out 0; have hfz32_1 := blk_frozen BK1.out 1; have hnb33 := NB2_3.out; have hnc33 := NB3_2.out; have hcz34_0 : w29.cell? ⟨gb2, 0, none⟩ = some (.int .u32 a1_0) := (blk_cell BK2.out 0).trans rfl; have hcz34_1 : w29.cell? ⟨gb2, 1, none⟩ = some (.int .u32 a1_1) := (blk_cell BK2.out 1).trans rfl; have hfz34_0 := blk_frozen BK2.out 0; have hfz34_1 := blk_frozen BK2.out 1; have hcz35_0 : w29.cell? ⟨gb3, 0, none⟩ = some (.int .u32 0) := (blk_cell BK3.out 0).trans rfl; have hcz35_1 : w29.cell? ⟨gb3, 1, none⟩ = some (.int .u32 0) := (blk_cell BK3.out 1).trans rfl; have hfz35_0 := blk_frozen BK3.out 0; have hfz35_1 := blk_frozen BK3.out 1)); try go_wp2_with (first | ((with_reducible refine gate_dst (N := 2) rfl ?_); refine box_event ?hg (N := 2) ?hd (cs := #[.int .u32 a0_0, .int .u32 a0_1]) (t := 24) ?hr ?_; (case hd => rfl); (case hg => rfl); (case hr => first | (go_simp; done) | (go_simp; rfl)); intro gb1 hg w27 hbox hb; have n0_ := Aside0.mk (below_step (by repeat (first | (with_reducible first | exact HB.out | apply below_alloc | apply pw_below_drewN | apply below_drew1) | exact HB.out)) hb); have n1_ := Aside0.mk (hbox); have n2_ := Aside0.mk ((by rw [hg]; exact (below_size (by repeat (first | (with_reducible first | exact HB.out | apply below_alloc | apply pw_below_drewN | apply below_drew1) | exact HB.out))) : w.heap.size ≤ gb1)); have n3_ := Aside0.mk ((by rw [hg]; exact (below_size (by repeat (first | (with_reducible first | exact HB.out | apply below_alloc | apply pw_below_drewN | apply below_drew1) | exact HB.out))) : w.heap.size ≤ gb1)); clear HB; have HB := n0_; have BK1 := n1_; have GW1 := n2_; have GE1 := n3_; clear n0_ n1_ n2_ n3_; clear hb hbox hg) | ((with_reducible refine gate_dst (N := 3) rfl ?_); refine box_event ?hg (N := 3) ?hd (cs := #[.int .u32 a1_0, .int .u32 a1_1]) (t := 24) ?hr ?_; (case hd => rfl); (case hg => rfl); (case hr => first | (go_simp; done) | (go_simp; rfl)); intro gb2 hg w28 hbox hb; have n0_ := Aside0.mk (blk_below (g := gb1) (o := .cells #[.int .u32 a0_0, .int .u32 a0_1] 24 (0, 0)) (by (with_reducible repeat (first | refine blk_drewN ?_ _ | refine blk_drew ?_ | refine blk_alloc ?_ _)); exact BK1.out) hb); have n1_ := Aside0.mk (below_step (by repeat (first | (with_reducible first | exact HB.out | apply below_alloc | apply pw_below_drewN | apply below_drew1 | refine below_set ?_ GE1.out) | exact HB.out)) hb); have n2_ := Aside0.mk (hbox); have n3_ := Aside0.mk ((by rw [hg]; exact (below_size (by repeat (first | (with_reducible first | exact HB.out | apply below_alloc | apply pw_below_drewN | apply below_drew1 | refine below_set ?_ GE1.out) | exact HB.out))) : w.heap.size ≤ gb2)); have n4_ := Aside0.mk ((by rw [hg]; exact (below_size (by repeat (first | (with_reducible first | exact HB.out | apply below_alloc | apply pw_below_drewN | apply below_drew1 | refine below_set ?_ GE1.out) | exact HB.out))) : w.heap.size ≤ gb2)); have n5_ := Aside0.mk ((by rw [hg]; exact Nat.ne_of_lt (blk_lt (g := gb1) (o := .cells #[.int .u32 a0_0, .int .u32 a0_1] 24 (0, 0)) (by (with_reducible repeat (first | refine blk_drewN ?_ _ | refine blk_drew ?_ | refine blk_alloc ?_ _)); exact BK1.out)) : gb1 ≠ gb2)); have n6_ := Aside0.mk ((by rw [hg]; exact Nat.ne_of_gt (blk_lt (g := gb1) (o := .cells #[.int .u32 a0_0, .int .u32 a0_1] 24 (0, 0)) (by (with_reducible repeat (first | refine blk_drewN ?_ _ | refine blk_drew ?_ | refine blk_alloc ?_ _)); exact BK1.out)) : gb2 ≠ gb1)); clear BK1; clear HB; have BK1 := n0_; have HB := n1_; have BK2 := n2_; have GW2 := n3_; have GE2 := n4_; have NB1_2 := n5_; have NB2_1 := n6_; clear n0_ n1_ n2_ n3_ n4_ n5_ n6_; clear hb hbox hg) | ((with_reducible refine gate_dst (N := 4) rfl ?_); refine box_event ?hg (N := 4) ?hd (cs := #[.int .u32 0, .int .u32 0]) (t := 24) ?hr ?_; (case hd => rfl); (case hg => rfl); (case hr => first | (go_simp; done) | (go_simp; rfl)); intro gb3 hg w29 hbox hb; have n0_ := Aside0.mk (blk_below (g := gb1) (o := .cells #[.int .u32 a0_0, .int .u32 a0_1] 24 (0, 0)) (by (with_reducible repeat (first | refine blk_drewN ?_ _ | refine blk_drew ?_ | refine blk_alloc ?_ _)); exact BK1.out) hb); have n1_ := Aside0.mk (blk_below (g := gb2) (o := .cells #[.int .u32 a1_0, .int .u32 a1_1] 24 (0, 0)) (by (with_reducible repeat (first | refine blk_drewN ?_ _ | refine blk_drew ?_ | refine blk_alloc ?_ _)); exact BK2.out) hb); have n2_ := Aside0.mk (below_step (by repeat (first | (with_reducible first | exact HB.out | apply below_alloc | apply pw_below_drewN | apply below_drew1 | refine below_set ?_ GE1.out | refine below_set ?_ GE2.out) | exact HB.out)) hb); have n3_ := Aside0.mk (hbox); have n4_ := Aside0.mk ((by rw [hg]; exact (below_size (by repeat (first | (with_reducible first | exact HB.out | apply below_alloc | apply pw_below_drewN | apply below_drew1 | refine below_set ?_ GE1.out | refine below_set ?_ GE2.out) | exact HB.out))) : w.heap.size ≤ gb3)); have n5_ := Aside0.mk ((by rw [hg]; exact (below_size (by repeat (first | (with_reducible first | exact HB.out | apply below_alloc | apply pw_below_drewN | apply below_drew1 | refine below_set ?_ GE1.out | refine below_set ?_ GE2.out) | exact HB.out))) : w.heap.size ≤ gb3)); have n6_ := Aside0.mk ((by rw [hg]; exact Nat.ne_of_lt (blk_lt (g := gb1) (o := .cells #[.int .u32 a0_0, .int .u32 a0_1] 24 (0, 0)) (by (with_reducible repeat (first | refine blk_drewN ?_ _ | refine blk_drew ?_ | refine blk_alloc ?_ _)); exact BK1.out)) : gb1 ≠ gb3)); have n7_ := Aside0.mk ((by rw [hg]; exact Nat.ne_of_gt (blk_lt (g := gb1) (o := .cells #[.int .u32 a0_0, .int .u32 a0_1] 24 (0, 0)) (by (with_reducible repeat (first | refine blk_drewN ?_ _ | refine blk_drew ?_ | refine blk_alloc ?_ _)); exact BK1.out)) : gb3 ≠ gb1)); have n8_ := Aside0.mk ((by rw [hg]; exact Nat.ne_of_lt (blk_lt (g := gb2) (o := .cells #[.int .u32 a1_0, .int .u32 a1_1] 24 (0, 0)) (by (with_reducible repeat (first | refine blk_drewN ?_ _ | refine blk_drew ?_ | refine blk_alloc ?_ _)); exact BK2.out)) : gb2 ≠ gb3)); have n9_ := Aside0.mk ((by rw [hg]; exact Nat.ne_of_gt (blk_lt (g := gb2) (o := .cells #[.int .u32 a1_0, .int .u32 a1_1] 24 (0, 0)) (by (with_reducible repeat (first | refine blk_drewN ?_ _ | refine blk_drew ?_ | refine blk_alloc ?_ _)); exact BK2.out)) : gb3 ≠ gb2)); clear BK1; clear BK2; clear HB; have BK1 := n0_; have BK2 := n1_; have HB := n2_; have BK3 := n3_; have GW3 := n4_; have GE3 := n5_; have NB1_3 := n6_; have NB3_1 := n7_; have NB2_3 := n8_; have NB3_2 := n9_; clear n0_ n1_ n2_ n3_ n4_ n5_ n6_ n7_ n8_ n9_; clear hb hbox hg; have hnb30 := NB1_2.out; have hnc30 := NB2_1.out; have hnb31 := NB1_3.out; have hnc31 := NB3_1.out; have hcz32_0 : w29.cell? ⟨gb1, 0, none⟩ = some (.int .u32 a0_0) := (blk_cell BK1.out 0).trans rfl; have hcz32_1 : w29.cell? ⟨gb1, 1, none⟩ = some (.int .u32 a0_1) := (blk_cell BK1.out 1).trans rfl; have hfz32_0 := blk_frozen BK1.out 0; have hfz32_1 := blk_frozen BK1.out 1; have hnb33 := NB2_3.out; have hnc33 := NB3_2.out; have hcz34_0 : w29.cell? ⟨gb2, 0, none⟩ = some (.int .u32 a1_0) := (blk_cell BK2.out 0).trans rfl; have hcz34_1 : w29.cell? ⟨gb2, 1, none⟩ = some (.int .u32 a1_1) := (blk_cell BK2.out 1).trans rfl; have hfz34_0 := blk_frozen BK2.out 0; have hfz34_1 := blk_frozen BK2.out 1; have hcz35_0 : w29.cell? ⟨gb3, 0, none⟩ = some (.int .u32 0) := (blk_cell BK3.out 0).trans rfl; have hcz35_1 : w29.cell? ⟨gb3, 1, none⟩ = some (.int .u32 0) := (blk_cell BK3.out 1).trans rfl; have hfz35_0 := blk_frozen BK3.out 0; have hfz35_1 := blk_frozen BK3.out 1)))
   refine bodyPost_ret (results_ct rfl _ _ gb3 24 #[.int .u32 (((65536 * (ji3)) + (ji4)) % 4294967296), .int .u32 (((65536 * (ji5)) + (ji6)) % 4294967296)] (0, 0) _ rfl (by (with_reducible repeat (first | refine blk_drewN ?_ _ | refine blk_drew ?_ | refine blk_alloc ?_ _)); refine blk_put (cs := #[.int .u32 (((65536 * (ji3)) + (ji4)) % 4294967296), .int .u32 0]) ?_ 1 _ rfl; (with_reducible repeat (first | refine blk_drewN ?_ _ | refine blk_drew ?_ | refine blk_alloc ?_ _)); refine blk_put (cs := #[.int .u32 0, .int .u32 0]) ?_ 0 _ rfl; (with_reducible repeat (first | refine blk_drewN ?_ _ | refine blk_drew ?_ | refine blk_alloc ?_ _)); exact BK3.out) Try.underlying24 rfl (by kernel_rfl)) rfl ?_
   exact ⟨by first | rfl | (simp [errW_none, errW_some] <;> rfl) | (simp only [← hji3, ← hji4, ← hji5, ← hji6]; first | rfl | (simp [errW_none, errW_some] <;> rfl)) | (simp [*, errW_none, errW_some] <;> rfl), by repeat (first | (with_reducible first | exact HB.out | apply below_alloc | apply pw_below_drewN | apply below_drew1 | refine below_set ?_ GE1.out | refine below_set ?_ GE2.out | refine below_set ?_ GE3.out) | exact HB.out)⟩

end Go.Proofs.Ytdkbfcogmlghfaa.P

namespace Go.Proofs.Ytdkbfcogmlghfaa.P
open Go.RowKit Go.Proofs.YtdkbfcogmlghfaaW.PrintWords Go.Proofs.YtdkbfcogmlghfaaW.PrintMore
set_option linter.unusedVariables false
set_option linter.unusedSimpArgs false
theorem mx_nat (a b : Nat) : mx (a : Int) (b : Int) = ((max a b : Nat) : Int) := by unfold mx; split <;> omega
theorem mn_nat (a b : Nat) : mn (a : Int) (b : Int) = ((min a b : Nat) : Int) := by unfold mn; split <;> omega
theorem u32_nat {a : Int} (h : (Lit.int .u32 a).wf = true) : ∃ n : Nat, a = (n : Int) ∧ n < 4294967296 := by
  simp [Lit.wf, IntKind.min, IntKind.max, IntKind.signed, IntKind.bits] at h
  exact ⟨a.toNat, by omega, by omega⟩
theorem u32B_of (n : Nat) (h : n < 4294967296) : u32B (n : Int) = true := by unfold u32B; simp; omega
theorem in_f (lo hi c : Nat) (h1 : lo < 4294967296) (h2 : hi < 4294967296) (h3 : c < 4294967296) : plane_In.f (lo : Int) (hi : Int) (c : Int) = some (inB lo hi c) := by
  unfold plane_In.f
  rw [u32B_of lo h1, u32B_of hi h2, u32B_of c h3, if_pos (by rfl)]
  simp only [Int.toNat_natCast]
theorem meet_f (al ah bl bh : Nat) (h1 : al < 4294967296) (h2 : ah < 4294967296) (h3 : bl < 4294967296) (h4 : bh < 4294967296) : plane_Meet.f (al : Int) (ah : Int) (bl : Int) (bh : Int) = some (meetN al ah bl bh) := by
  unfold plane_Meet.f
  rw [u32B_of al h1, u32B_of ah h2, u32B_of bl h3, u32B_of bh h4, if_pos (by rfl)]
  simp only [Int.toNat_natCast]
theorem refMeet_f (al ah bl bh : Nat) (h1 : al < 4294967296) (h2 : ah < 4294967296) (h3 : bl < 4294967296) (h4 : bh < 4294967296) : q6z.f (al : Int) (ah : Int) (bl : Int) (bh : Int) = some (meetN al ah bl bh) := by
  unfold q6z.f meetN
  rw [quoN al h1, quoN ah h2, quoN bl h3, quoN bh h4, remN al, remN ah, remN bl, remN bh, mx_nat, mx_nat, mn_nat, mn_nat]
  have x1 : al / 65536 < 65536 := by omega
  have x2 : ah / 65536 < 65536 := by omega
  have x3 : bl / 65536 < 65536 := by omega
  have x4 : bh / 65536 < 65536 := by omega
  have y1 : al % 65536 < 65536 := by omega
  have y2 : ah % 65536 < 65536 := by omega
  have y3 : bl % 65536 < 65536 := by omega
  have y4 : bh % 65536 < 65536 := by omega
  generalize al / 65536 = a at x1 ⊢
  generalize ah / 65536 = b at x2 ⊢
  generalize bl / 65536 = c at x3 ⊢
  generalize bh / 65536 = d at x4 ⊢
  generalize al % 65536 = a' at y1 ⊢
  generalize ah % 65536 = b' at y2 ⊢
  generalize bl % 65536 = c' at y3 ⊢
  generalize bh % 65536 = d' at y4 ⊢
  obtain ⟨p, hp⟩ : ∃ p, p = max a c := ⟨_, rfl⟩
  obtain ⟨q, hq⟩ : ∃ q, q = min b d := ⟨_, rfl⟩
  obtain ⟨p', hp'⟩ : ∃ p, p = max a' c' := ⟨_, rfl⟩
  obtain ⟨q', hq'⟩ : ∃ q, q = min b' d' := ⟨_, rfl⟩
  rw [← hp, ← hq, ← hp', ← hq']
  have b1 : p < 65536 := by omega
  have b2 : q < 65536 := by omega
  have b3 : p' < 65536 := by omega
  have b4 : q' < 65536 := by omega
  by_cases c1 : p ≤ q
  · rw [if_neg (by omega), decide_eq_true c1, Bool.true_and]
    by_cases c2 : p' ≤ q'
    · rw [if_neg (by omega), decide_eq_true c2, if_pos rfl]
      congr 2
      · omega
      · congr 1
        omega
    · rw [if_pos (by omega), decide_eq_false c2, if_neg (by decide)]
  · rw [if_pos (by omega), decide_eq_false c1, Bool.false_and, if_neg (by decide)]
/-- The box that lies in both, with its ends as numbers. -/
theorem meetN_no (al ah bl bh : Nat) (h : (meetN al ah bl bh).2.2 = false) (c : Nat) : (inB al ah c && inB bl bh c) = false := by
  unfold meetN at h
  split at h
  · simp at h
  · rename_i hn
    rw [Bool.eq_false_iff]
    intro hc
    apply hn
    simp only [inB, withinN, Bool.and_eq_true, decide_eq_true_eq] at hc ⊢
    omega
theorem meetN_yes (al ah bl bh : Nat) (h1 : al < 4294967296) (h2 : ah < 4294967296) (h3 : bl < 4294967296) (h4 : bh < 4294967296) (h : (meetN al ah bl bh).2.2 = true) :
    ∃ m n : Nat, (meetN al ah bl bh).1 = (m : Int) ∧ (meetN al ah bl bh).2.1 = (n : Int) ∧ m < 4294967296 ∧ n < 4294967296 ∧ m / 65536 = max (al / 65536) (bl / 65536) ∧ m % 65536 = max (al % 65536) (bl % 65536) ∧ n / 65536 = min (ah / 65536) (bh / 65536) ∧ n % 65536 = min (ah % 65536) (bh % 65536) := by
  unfold meetN at h ⊢
  split at h
  · rename_i hn
    rw [if_pos hn]
    exact ⟨_, _, rfl, rfl, by omega, by omega, by omega, by omega, by omega, by omega⟩
  · simp at h
theorem inB_meet (al ah bl bh m n c : Nat) (e1 : m / 65536 = max (al / 65536) (bl / 65536)) (e2 : m % 65536 = max (al % 65536) (bl % 65536)) (e3 : n / 65536 = min (ah / 65536) (bh / 65536)) (e4 : n % 65536 = min (ah % 65536) (bh % 65536)) : inB m n c = (inB al ah c && inB bl bh c) := by
  rw [Bool.eq_iff_iff]
  simp only [inB, withinN, Bool.and_eq_true, decide_eq_true_eq, e1, e2, e3, e4]
  omega
end Go.Proofs.Ytdkbfcogmlghfaa.P

namespace Go.Proofs.Ytdkbfcogmlghfaa.P
open Go.RowKit Go.Proofs.YtdkbfcogmlghfaaW.PrintWords Go.Proofs.YtdkbfcogmlghfaaW.PrintMore
set_option linter.unusedVariables false
set_option linter.unusedSimpArgs false
/-! Meet, either way round and of three. -/
def okP (al ah bl bh : Nat) : Prop := max (al / 65536) (bl / 65536) ≤ min (ah / 65536) (bh / 65536) ∧ max (al % 65536) (bl % 65536) ≤ min (ah % 65536) (bh % 65536)
theorem meetN_ok (al ah bl bh : Nat) : (meetN al ah bl bh).2.2 = true ↔ okP al ah bl bh := by
  unfold meetN okP
  by_cases h : max (al / 65536) (bl / 65536) ≤ min (ah / 65536) (bh / 65536) ∧ max (al % 65536) (bl % 65536) ≤ min (ah % 65536) (bh % 65536)
  · rw [decide_eq_true h.1, decide_eq_true h.2, if_pos (by rfl)]
    exact ⟨fun _ => h, fun _ => rfl⟩
  · have hc : ¬ (decide (max (al / 65536) (bl / 65536) ≤ min (ah / 65536) (bh / 65536)) && decide (max (al % 65536) (bl % 65536) ≤ min (ah % 65536) (bh % 65536))) = true := by
      simp only [Bool.and_eq_true, decide_eq_true_eq]
      exact h
    rw [if_neg hc]
    exact ⟨fun h2 => absurd h2 (by decide), fun h2 => absurd h2 h⟩
theorem meetN_val (al ah bl bh : Nat) (h : okP al ah bl bh) : meetN al ah bl bh = (((65536 * max (al / 65536) (bl / 65536) + max (al % 65536) (bl % 65536) : Nat) : Int), ((65536 * min (ah / 65536) (bh / 65536) + min (ah % 65536) (bh % 65536) : Nat) : Int), true) := by
  unfold okP at h
  unfold meetN
  rw [decide_eq_true h.1, decide_eq_true h.2, if_pos (by rfl)]
theorem meetN_none (al ah bl bh : Nat) (h : ¬ okP al ah bl bh) : meetN al ah bl bh = (0, 0, false) := by
  have hc : ¬ (decide (max (al / 65536) (bl / 65536) ≤ min (ah / 65536) (bh / 65536)) && decide (max (al % 65536) (bl % 65536) ≤ min (ah % 65536) (bh % 65536))) = true := by
    simp only [Bool.and_eq_true, decide_eq_true_eq]
    exact h
  unfold meetN
  rw [if_neg hc]
theorem meetN_symm (al ah bl bh : Nat) : meetN al ah bl bh = meetN bl bh al ah := by
  unfold meetN
  rw [Nat.max_comm (al / 65536), Nat.max_comm (al % 65536), Nat.min_comm (ah / 65536), Nat.min_comm (ah % 65536)]
theorem inB_self (al ah : Nat) : inB al ah al = true ↔ okP al ah al ah := by
  unfold inB withinN okP
  simp only [Bool.and_eq_true, decide_eq_true_eq]
  omega
theorem meetN_self (al ah : Nat) (h : okP al ah al ah) : meetN al ah al ah = ((al : Int), (ah : Int), true) := by
  rw [meetN_val al ah al ah h]
  simp only [Nat.max_self, Nat.min_self, Prod.mk.injEq]
  exact ⟨by omega, by omega, trivial⟩
theorem meetN_nat (al ah bl bh : Nat) (h1 : al < 4294967296) (h2 : ah < 4294967296) (h3 : bl < 4294967296) (h4 : bh < 4294967296) : ∃ m n : Nat, (meetN al ah bl bh).1 = (m : Int) ∧ (meetN al ah bl bh).2.1 = (n : Int) ∧ m < 4294967296 ∧ n < 4294967296 ∧
    (okP al ah bl bh → m / 65536 = max (al / 65536) (bl / 65536) ∧ m % 65536 = max (al % 65536) (bl % 65536) ∧ n / 65536 = min (ah / 65536) (bh / 65536) ∧ n % 65536 = min (ah % 65536) (bh % 65536)) := by
  by_cases h : okP al ah bl bh
  · rw [meetN_val al ah bl bh h]
    exact ⟨_, _, rfl, rfl, by omega, by omega, fun _ => ⟨by omega, by omega, by omega, by omega⟩⟩
  · rw [meetN_none al ah bl bh h]
    exact ⟨0, 0, rfl, rfl, by omega, by omega, fun h2 => absurd h2 h⟩
theorem dimA (a b c A B C : Nat) (h : max (max a b) c ≤ min (min A B) C) : max b c ≤ min B C ∧ max a (max b c) ≤ min A (min B C) := by omega
theorem dimB (a b c A B C : Nat) (h : max a (max b c) ≤ min A (min B C)) : max a b ≤ min A B ∧ max (max a b) c ≤ min (min A B) C := by omega
theorem three (al ah bl bh cl ch m n p q : Nat) (hm : okP al ah bl bh → m / 65536 = max (al / 65536) (bl / 65536) ∧ m % 65536 = max (al % 65536) (bl % 65536) ∧ n / 65536 = min (ah / 65536) (bh / 65536) ∧ n % 65536 = min (ah % 65536) (bh % 65536))
    (hp : okP bl bh cl ch → p / 65536 = max (bl / 65536) (cl / 65536) ∧ p % 65536 = max (bl % 65536) (cl % 65536) ∧ q / 65536 = min (bh / 65536) (ch / 65536) ∧ q % 65536 = min (bh % 65536) (ch % 65536)) :
    (okP al ah bl bh ∧ okP m n cl ch ↔ okP bl bh cl ch ∧ okP al ah p q) ∧ (okP al ah bl bh → okP m n cl ch → meetN m n cl ch = meetN al ah p q) := by
  have key : okP al ah bl bh ∧ okP m n cl ch ↔ okP bl bh cl ch ∧ okP al ah p q := by
    constructor
    · rintro ⟨h1, h2⟩
      obtain ⟨e1, e2, e3, e4⟩ := hm h1
      unfold okP at h2
      rw [e1, e2, e3, e4] at h2
      obtain ⟨x1, x2⟩ := dimA _ _ _ _ _ _ h2.1
      obtain ⟨y1, y2⟩ := dimA _ _ _ _ _ _ h2.2
      have h3 : okP bl bh cl ch := ⟨x1, y1⟩
      obtain ⟨f1, f2, f3, f4⟩ := hp h3
      refine ⟨h3, ?_⟩
      unfold okP
      rw [f1, f2, f3, f4]
      exact ⟨x2, y2⟩
    · rintro ⟨h1, h2⟩
      obtain ⟨f1, f2, f3, f4⟩ := hp h1
      unfold okP at h2
      rw [f1, f2, f3, f4] at h2
      obtain ⟨x1, x2⟩ := dimB _ _ _ _ _ _ h2.1
      obtain ⟨y1, y2⟩ := dimB _ _ _ _ _ _ h2.2
      have h3 : okP al ah bl bh := ⟨x1, y1⟩
      obtain ⟨e1, e2, e3, e4⟩ := hm h3
      refine ⟨h3, ?_⟩
      unfold okP
      rw [e1, e2, e3, e4]
      exact ⟨x2, y2⟩
  refine ⟨key, fun h1 h2 => ?_⟩
  obtain ⟨h3, h4⟩ := key.1 ⟨h1, h2⟩
  obtain ⟨e1, e2, e3, e4⟩ := hm h1
  obtain ⟨f1, f2, f3, f4⟩ := hp h3
  rw [meetN_val m n cl ch h2, meetN_val al ah p q h4, e1, e2, e3, e4, f1, f2, f3, f4, Nat.max_assoc, Nat.max_assoc, Nat.min_assoc, Nat.min_assoc]
end Go.Proofs.Ytdkbfcogmlghfaa.P

namespace Go.Proofs.Ytdkbfcogmlghfaa.P
open Go.RowKit Go.Proofs.YtdkbfcogmlghfaaW.PrintWords Go.Proofs.YtdkbfcogmlghfaaW.PrintMore
theorem alive_ev : Ev (fun k => q4z.f k) true := by
  refine ⟨60, fun k hk => ?_⟩
  obtain ⟨m, rfl⟩ : ∃ m, k = m + 60 := ⟨k - 60, by omega⟩
  kernel_rfl
end Go.Proofs.Ytdkbfcogmlghfaa.P

namespace Go.Proofs.Ytdkbfcogmlghfaa.P
open Go.RowKit Go.Proofs.YtdkbfcogmlghfaaW.PrintWords Go.Proofs.YtdkbfcogmlghfaaW.PrintMore
set_option linter.unusedVariables false
set_option linter.unusedSimpArgs false
theorem laws_j1 (k al ah bl bh cl ch : Nat) (b0 : al < 4294967296) (b1 : ah < 4294967296) (b2 : bl < 4294967296) (b3 : bh < 4294967296) (b4 : cl < 4294967296) (b5 : ch < 4294967296) :
    q5z.j1 (k + 1) (meetN al ah bl bh).2.2 false al ah bl bh cl ch (meetN al ah bl bh).1 (meetN al ah bl bh).2.1 = some true := by
  obtain ⟨m, n, m1, m2, m3, m4, hm⟩ := meetN_nat al ah bl bh b0 b1 b2 b3
  obtain ⟨p, q, p1, p2, p3, p4, hp⟩ := meetN_nat bl bh cl ch b2 b3 b4 b5
  obtain ⟨t1, t2⟩ := three al ah bl bh cl ch m n p q hm hp
  simp only [q5z.j1]
  rw [if_neg (by decide), meet_f bl bh cl ch b2 b3 b4 b5, Option.bind_some, m1, m2, meet_f m n cl ch m3 m4 b4 b5, Option.bind_some, p1, p2, meet_f al ah p q b0 b1 p3 p4, Option.bind_some]
  have k1 := meetN_ok al ah bl bh
  have k2 := meetN_ok bl bh cl ch
  have k3 := meetN_ok m n cl ch
  have k4 := meetN_ok al ah p q
  rw [← k1, ← k2, ← k3, ← k4] at t1
  rw [← k1, ← k3] at t2
  clear k1 k2 k3 k4 hm hp
  cases h1 : (meetN al ah bl bh).2.2 <;> cases h2 : (meetN bl bh cl ch).2.2 <;> cases h3 : (meetN m n cl ch).2.2 <;> cases h4 : (meetN al ah p q).2.2 <;> simp only [h1, h2, h3, h4] at t1 t2 <;> first
    | (exfalso; simp at t1; done)
    | rfl
    | (rw [t2 trivial trivial]; simp; done)
    | (rw [t2 rfl rfl]; simp; done)
    | (simp; done)
theorem laws_j0 (k al ah bl bh cl ch : Nat) (b0 : al < 4294967296) (b1 : ah < 4294967296) (b2 : bl < 4294967296) (b3 : bh < 4294967296) (b4 : cl < 4294967296) (b5 : ch < 4294967296) :
    q5z.j0 (k + 1 + 1) (meetN al ah bl bh).2.2 false al ah bl bh cl ch (meetN al ah bl bh).1 (meetN al ah bl bh).2.1 = some true := by
  have hj := laws_j1 k al ah bl bh cl ch b0 b1 b2 b3 b4 b5
  generalize (meetN al ah bl bh).2.2 = ok at hj ⊢
  generalize (meetN al ah bl bh).1 = m at hj ⊢
  generalize (meetN al ah bl bh).2.1 = n at hj ⊢
  have hi := inB_self al ah
  have e1 := meet_f al ah al ah b0 b1 b0 b1
  have e2 := in_f al ah al b0 b1 b0
  simp only [q5z.j0, e1, e2, Option.bind_some]
  rw [if_neg (by decide)]
  by_cases hs : okP al ah al ah
  · rw [meetN_self al ah hs, hi.2 hs]
    simp only []
    rw [if_pos trivial, if_neg (by simp), bne_self_eq_false]
    exact hj
  · have hf : inB al ah al = false := by
      rw [Bool.eq_false_iff]
      exact fun h => hs (hi.1 h)
    rw [meetN_none al ah al ah hs, hf]
    simp only [Bool.false_eq_true, if_false, bne_self_eq_false]
    exact hj
theorem pure_PlaneLaws (a0_0 : Int) (a0_1 : Int) (a1_0 : Int) (a1_1 : Int) (a2_0 : Int) (a2_1 : Int) (h0 : (Lit.int .u32 a0_0).wf = true) (h1 : (Lit.int .u32 a0_1).wf = true) (h2 : (Lit.int .u32 a1_0).wf = true) (h3 : (Lit.int .u32 a1_1).wf = true) (h4 : (Lit.int .u32 a2_0).wf = true) (h5 : (Lit.int .u32 a2_1).wf = true) : ∃ k, q5z.f k a0_0 a0_1 a1_0 a1_1 a2_0 a2_1 = some true := by
  obtain ⟨al, rfl, b0⟩ := u32_nat h0
  obtain ⟨ah, rfl, b1⟩ := u32_nat h1
  obtain ⟨bl, rfl, b2⟩ := u32_nat h2
  obtain ⟨bh, rfl, b3⟩ := u32_nat h3
  obtain ⟨cl, rfl, b4⟩ := u32_nat h4
  obtain ⟨ch, rfl, b5⟩ := u32_nat h5
  obtain ⟨K, e0⟩ := alive_ev
  have ea : q4z.f (K + 2) = some true := e0 (K + 2) (by omega)
  refine ⟨K + 2, ?_⟩
  have hj := laws_j0 K al ah bl bh cl ch b0 b1 b2 b3 b4 b5
  have e1 := meet_f al ah bl bh b0 b1 b2 b3
  have e2 := meet_f bl bh al ah b2 b3 b0 b1
  rw [← meetN_symm al ah bl bh] at e2
  unfold q5z.f
  rw [ea, Option.bind_some, if_pos rfl, e1, Option.bind_some, e2, Option.bind_some]
  generalize (meetN al ah bl bh).2.2 = ok at hj ⊢
  generalize (meetN al ah bl bh).1 = m at hj ⊢
  generalize (meetN al ah bl bh).2.1 = n at hj ⊢
  rw [if_neg (by simp), bne_self_eq_false]
  exact hj
end Go.Proofs.Ytdkbfcogmlghfaa.P

namespace Go.Proofs.Ytdkbfcogmlghfaa.planeLaws
open Go.ChangeShapes Go.WideShapes Go.ChangeAt Go.RowKit
open Go.ChangeMaps (open_string shut_string)
open Go.Proofs.YtdkbfcogmlghfaaW.PrintWords Go.Proofs.YtdkbfcogmlghfaaW.PrintLast Go.Proofs.YtdkbfcogmlghfaaW.PrintMore Go.Proofs.Ytdkbfcogmlghfaa.P
set_option linter.unusedVariables false
set_option linter.unusedSimpArgs false
theorem own : ownKnob Try.prog.godebug = none := by kernel_rfl
theorem laidOut : laidOutB Try.prog = true := by kernel_rfl
set_option maxRecDepth 100000 in
theorem lifted (os : Os) (started : os.Started) (H : Type) (enc : TypeId × Value → H) :
    ReturnsInHanded {} Try.checked os 6 .any (Rows.planeLawsSpec.pre6 enc Try.prog Try.f6 Rows.planeLawsRow.domain false) (Rows.planeLawsSpec.post enc Try.prog Try.f6 false true false false) := by
  refine returnsInHanded_of_change_sized (C := Try.checked) own started (by kernel_rfl) Try.func6
    (ChangeSpec.witness6 (enc := enc) (C := Try.checked) false ⟨#[], #[.agg #[.int .u32 0, .int .u32 0], .agg #[.int .u32 0, .int .u32 0], .agg #[.int .u32 0, .int .u32 0]], []⟩ 8 (by kernel_rfl) (by kernel_rfl) (by kernel_rfl) (by kernel_rfl)) ?_
  intro W base args ds gs before hval0 hW hcnd hsz0 _
  have hval : ∀ (j : Nat) t v, Try.f6.params[j]? = some t → args[j]? = some v → Value.okWide Try.prog W .any base t v := hval0
  have hW' := hW
  obtain ⟨p, q, hA0, hV, rfl, hfz, hnd⟩ := hW
  have hA : DataW.TrodAll enc Try.prog W 0 (fun _ => true) true Try.f6.params.toList args.toList ds p := hA0
  rw [Try.params6] at hA hval
  obtain ⟨v0, vs0, d0, ds0, p0, q0, hargs, rfl, rfl, h0, r0⟩ := trodAll_cons hA
  obtain ⟨v1, vs1, d1, ds1, p1, q1, rfl, rfl, rfl, h1, r1⟩ := trodAll_cons r0
  obtain ⟨v2, vs2, d2, ds2, p2, q2, rfl, rfl, rfl, h2, r2⟩ := trodAll_cons r1
  obtain ⟨rfl, rfl, rfl⟩ := trodAll_nil r2
  obtain rfl : args = #[v0, v1, v2] := by cases args; simp_all
  obtain ⟨rfl, rfl⟩ := trodVars_none hV
  obtain ⟨cs0, rfl, hz0⟩ := okWide_struct Try.underlying24 (hval 0 24 v0 rfl rfl)
  have k0 := h0
  have lt0 : ∀ x ∈ p0, x.block < W.heap.size := by obtain ⟨m, hm⟩ := k0; exact DataW.trod_lt m _ _ _ hm
  obtain ⟨⟨l0_0, l0_1⟩, hK0, hg0⟩ : ∃ x_ : S24, k24.K W x_ cs0.toList ∧ good24 x_ := by obtain ⟨fuel, hf⟩ := h0; exact opens_T24 _ _ _ (by simpa [Value.cells] using hf)
  have hcs0 := k24_open hK0
  obtain rfl : cs0 = #[.int .u32 l0_0, .int .u32 l0_1] := Array.ext' hcs0
  obtain ⟨g0_0, g0_1⟩ := hg0
  obtain ⟨cs1, rfl, hz1⟩ := okWide_struct Try.underlying24 (hval 1 24 v1 rfl rfl)
  have k1 := h1
  have lt1 : ∀ x ∈ p1, x.block < W.heap.size := by obtain ⟨m, hm⟩ := k1; exact DataW.trod_lt m _ _ _ hm
  obtain ⟨⟨l1_0, l1_1⟩, hK1, hg1⟩ : ∃ x_ : S24, k24.K W x_ cs1.toList ∧ good24 x_ := by obtain ⟨fuel, hf⟩ := h1; exact opens_T24 _ _ _ (by simpa [Value.cells] using hf)
  have hcs1 := k24_open hK1
  obtain rfl : cs1 = #[.int .u32 l1_0, .int .u32 l1_1] := Array.ext' hcs1
  obtain ⟨g1_0, g1_1⟩ := hg1
  obtain ⟨cs2, rfl, hz2⟩ := okWide_struct Try.underlying24 (hval 2 24 v2 rfl rfl)
  have k2 := h2
  have lt2 : ∀ x ∈ p2, x.block < W.heap.size := by obtain ⟨m, hm⟩ := k2; exact DataW.trod_lt m _ _ _ hm
  obtain ⟨⟨l2_0, l2_1⟩, hK2, hg2⟩ : ∃ x_ : S24, k24.K W x_ cs2.toList ∧ good24 x_ := by obtain ⟨fuel, hf⟩ := h2; exact opens_T24 _ _ _ (by simpa [Value.cells] using hf)
  have hcs2 := k24_open hK2
  obtain rfl : cs2 = #[.int .u32 l2_0, .int .u32 l2_1] := Array.ext' hcs2
  obtain ⟨g2_0, g2_1⟩ := hg2
  clear hA0 hval0 hsz0
  obtain ⟨k_, hk_⟩ := pure_PlaneLaws l0_0 l0_1 l1_0 l1_1 l2_0 l2_1 g0_0 g0_1 g1_0 g1_1 g2_0 g2_1
  refine (q5z.calls k_ l0_0 l0_1 l1_0 l1_1 l2_0 l2_1 true W  hk_).mono fun e W' ⟨he, bel⟩ => ?_
  subst he
  exact ⟨_, rfl, _, _, _, [], _, [], hW', trodAll_mk1 (shut_bool Try.underlying4 _), (trodAll_cons_mk (Below.trod laidOut (by kernel_rfl) (of_decide_eq_true (by kernel_rfl)) k0 bel lt0) (trodAll_cons_mk (Below.trod laidOut (by kernel_rfl) (of_decide_eq_true (by kernel_rfl)) k1 bel lt1) (trodAll_cons_mk (Below.trod laidOut (by kernel_rfl) (of_decide_eq_true (by kernel_rfl)) k2 bel lt2) trodAll_mk0))), rfl, bel.frame _, fun h => by cases h⟩
theorem over : Rows.planeLawsRow.holds Try.pinned (OpenSpec.ofChange Rows.planeLawsSpec) :=
  OpenClaim.holds_of_wide 6 Try.f6 rfl rfl rfl rfl rfl rfl rfl ⟨rfl, rfl, rfl, rfl, rfl⟩ rfl rfl rfl rfl rfl (by kernel_rfl) Try.func6 (by kernel_rfl)
    (of_decide_eq_true (by kernel_rfl)) (by unfold Func.isWrapper; first | (rw [if_pos (by decide +kernel)]; kernel_rfl) | (rw [if_neg (by decide +kernel)]; exact ⟨rfl, rfl⟩))
    (fun os started H enc _ => lifted os started H enc)
theorem proved : Rows.PlaneLawsSaid := over
end Go.Proofs.Ytdkbfcogmlghfaa.planeLaws
namespace Go.Proofs.Ytdkbfcogmlghfaa
/-- The row, under a short name, for the claim. -/
theorem planeLaws_holds : Rows.PlaneLawsSaid := planeLaws.proved
#print axioms planeLaws_holds
end Go.Proofs.Ytdkbfcogmlghfaa
