/-
  Proved: for every input the law PlaneCells answers true, and each argument reads behind the call as it read before.
  Conditions: none beside the row's own.
-/
import Derived.Lib.SlicesCompact
import Derived.SizedLaws
import Derived.Test.YtdkbfcogmlghfaaRows
import Derived.WalkKit
import Derived.ProofKit
import Derived.OpenShut
import Derived.ShutString
import Derived.ChangeOld
import Derived.Below
import Derived.Test.YtdkbfcogmlghfaaCPlaneCells0
import Derived.Test.YtdkbfcogmlghfaaCPlaneCells1
import Derived.Test.YtdkbfcogmlghfaaCPlaneCells2
import Derived.Test.YtdkbfcogmlghfaaCPlaneCells3
namespace Go.Proofs.Ytdkbfcogmlghfaa.P
open Go.RowKit Go.Proofs.YtdkbfcogmlghfaaW.PrintWords Go.Proofs.YtdkbfcogmlghfaaW.PrintLast Go.Proofs.YtdkbfcogmlghfaaW.PrintMore
attribute [local go_sem] max2_int min2_int max_two min_two max_three min_three max_four min_four
set_option linter.unusedVariables false
set_option linter.unusedSimpArgs false

/-! ### dragomanref02_Meet: function 10 -/
def q11z.f (a0_0 : Int) (a0_1 : Int) (a1_0 : Int) (a1_1 : Int) : Option (Int × Int × Bool) := if (mx ((Int.tdiv a0_0 65536) % 4294967296) ((Int.tdiv a1_0 65536) % 4294967296)) > (mn ((Int.tdiv a0_1 65536) % 4294967296) ((Int.tdiv a1_1 65536) % 4294967296)) then (some (0, 0, false)) else (if (mx (Int.tmod a0_0 65536) (Int.tmod a1_0 65536)) > (mn (Int.tmod a0_1 65536) (Int.tmod a1_1 65536)) then (some (0, 0, false)) else (some (((65536 * (mx ((Int.tdiv a0_0 65536) % 4294967296) ((Int.tdiv a1_0 65536) % 4294967296))) + (mx (Int.tmod a0_0 65536) (Int.tmod a1_0 65536))) % 4294967296, ((65536 * (mn ((Int.tdiv a0_1 65536) % 4294967296) ((Int.tdiv a1_1 65536) % 4294967296))) + (mn (Int.tmod a0_1 65536) (Int.tmod a1_1 65536))) % 4294967296, true)))
set_option maxHeartbeats 8000000 in
set_option maxRecDepth 100000 in
theorem q11z.calls (a0_0 : Int) (a0_1 : Int) (a1_0 : Int) (a1_1 : Int) (r1 : Int) (r2 : Int) (r3 : Bool) (w : World) (h : q11z.f a0_0 a0_1 a1_0 a1_1 = some (r1, r2, r3)) :
  Calls Try.prog 10 #[.agg #[.int .u32 a0_0, .int .u32 a0_1], .agg #[.int .u32 a1_0, .int .u32 a1_1]] w fun e w' => e = .returned (.tuple #[.agg #[.int .u32 r1, .int .u32 r2], .bool r3]) ∧ Below w.heap.size w w' := by
 have hu24 := Try.underlying24
 have HB := Aside0.mk (Below.refl w.heap.size w)
 have H : (if (mx ((Int.tdiv a0_0 65536) % 4294967296) ((Int.tdiv a1_0 65536) % 4294967296)) > (mn ((Int.tdiv a0_1 65536) % 4294967296) ((Int.tdiv a1_1 65536) % 4294967296)) then (some (0, 0, false)) else (if (mx (Int.tmod a0_0 65536) (Int.tmod a1_0 65536)) > (mn (Int.tmod a0_1 65536) (Int.tmod a1_1 65536)) then (some (0, 0, false)) else (some (((65536 * (mx ((Int.tdiv a0_0 65536) % 4294967296) ((Int.tdiv a1_0 65536) % 4294967296))) + (mx (Int.tmod a0_0 65536) (Int.tmod a1_0 65536))) % 4294967296, ((65536 * (mn ((Int.tdiv a0_1 65536) % 4294967296) ((Int.tdiv a1_1 65536) % 4294967296))) + (mn (Int.tmod a0_1 65536) (Int.tmod a1_1 65536))) % 4294967296, true)))) = some (r1, r2, r3) := h
 clear h
 obtain ⟨ji3, hji3⟩ : ∃ j_ : Int, (mx ((Int.tdiv a0_0 65536) % 4294967296) ((Int.tdiv a1_0 65536) % 4294967296)) = j_ := ⟨_, rfl⟩
 replace H : (if (ji3) > (mn ((Int.tdiv a0_1 65536) % 4294967296) ((Int.tdiv a1_1 65536) % 4294967296)) then (some (0, 0, false)) else (if (mx (Int.tmod a0_0 65536) (Int.tmod a1_0 65536)) > (mn (Int.tmod a0_1 65536) (Int.tmod a1_1 65536)) then (some (0, 0, false)) else (some (((65536 * (ji3)) + (mx (Int.tmod a0_0 65536) (Int.tmod a1_0 65536))) % 4294967296, ((65536 * (mn ((Int.tdiv a0_1 65536) % 4294967296) ((Int.tdiv a1_1 65536) % 4294967296))) + (mn (Int.tmod a0_1 65536) (Int.tmod a1_1 65536))) % 4294967296, true)))) = some (r1, r2, r3) := by first | (rw [hji3] at H; exact H) | (simp only [hji3] at H ⊢; exact H)
 (try (have hji3h : ji3 ≤ 4294967295 := by (rw [← hji3]; unfold mx; (repeat' split) <;> omega)))
 (try (have hji3g : ji3 ≤ 64 := by omega))
 (try (have hji3l : 0 ≤ ji3 := by (rw [← hji3]; unfold mx; (repeat' split) <;> omega)))
 (try (have hji3m : 0 ≤ ji3 := by omega))
 have hji3_ : (if ((Int.tdiv a0_0 65536) % 4294967296) < ((Int.tdiv a1_0 65536) % 4294967296) then ((Int.tdiv a1_0 65536) % 4294967296) else ((Int.tdiv a0_0 65536) % 4294967296)) = ji3 := hji3
 obtain ⟨ji4, hji4⟩ : ∃ j_ : Int, (mx (Int.tmod a0_0 65536) (Int.tmod a1_0 65536)) = j_ := ⟨_, rfl⟩
 replace H : (if (ji3) > (mn ((Int.tdiv a0_1 65536) % 4294967296) ((Int.tdiv a1_1 65536) % 4294967296)) then (some (0, 0, false)) else (if (ji4) > (mn (Int.tmod a0_1 65536) (Int.tmod a1_1 65536)) then (some (0, 0, false)) else (some (((65536 * (ji3)) + (ji4)) % 4294967296, ((65536 * (mn ((Int.tdiv a0_1 65536) % 4294967296) ((Int.tdiv a1_1 65536) % 4294967296))) + (mn (Int.tmod a0_1 65536) (Int.tmod a1_1 65536))) % 4294967296, true)))) = some (r1, r2, r3) := by first | (rw [hji4] at H; exact H) | (simp only [hji4] at H ⊢; exact H)
 have hji4_ : (if (Int.tmod a0_0 65536) < (Int.tmod a1_0 65536) then (Int.tmod a1_0 65536) else (Int.tmod a0_0 65536)) = ji4 := hji4
 obtain ⟨ji5, hji5⟩ : ∃ j_ : Int, (mn ((Int.tdiv a0_1 65536) % 4294967296) ((Int.tdiv a1_1 65536) % 4294967296)) = j_ := ⟨_, rfl⟩
 replace H : (if (ji3) > (ji5) then (some (0, 0, false)) else (if (ji4) > (mn (Int.tmod a0_1 65536) (Int.tmod a1_1 65536)) then (some (0, 0, false)) else (some (((65536 * (ji3)) + (ji4)) % 4294967296, ((65536 * (ji5)) + (mn (Int.tmod a0_1 65536) (Int.tmod a1_1 65536))) % 4294967296, true)))) = some (r1, r2, r3) := by first | (rw [hji5] at H; exact H) | (simp only [hji5] at H ⊢; exact H)
 (try (have hji5h : ji5 ≤ 4294967295 := by (rw [← hji5]; unfold mn; (repeat' split) <;> omega)))
 (try (have hji5g : ji5 ≤ 64 := by omega))
 (try (have hji5l : 0 ≤ ji5 := by (rw [← hji5]; unfold mn; (repeat' split) <;> omega)))
 (try (have hji5m : 0 ≤ ji5 := by omega))
 have hji5_ : (if ((Int.tdiv a1_1 65536) % 4294967296) < ((Int.tdiv a0_1 65536) % 4294967296) then ((Int.tdiv a1_1 65536) % 4294967296) else ((Int.tdiv a0_1 65536) % 4294967296)) = ji5 := hji5
 obtain ⟨ji6, hji6⟩ : ∃ j_ : Int, (mn (Int.tmod a0_1 65536) (Int.tmod a1_1 65536)) = j_ := ⟨_, rfl⟩
 replace H : (if (ji3) > (ji5) then (some (0, 0, false)) else (if (ji4) > (ji6) then (some (0, 0, false)) else (some (((65536 * (ji3)) + (ji4)) % 4294967296, ((65536 * (ji5)) + (ji6)) % 4294967296, true)))) = some (r1, r2, r3) := by first | (rw [hji6] at H; exact H) | (simp only [hji6] at H ⊢; exact H)
 have hji6_ : (if (Int.tmod a1_1 65536) < (Int.tmod a0_1 65536) then (Int.tmod a1_1 65536) else (Int.tmod a0_1 65536)) = ji6 := hji6
 by_cases c7 : (ji3) > (ji5)
 ·
  rw [if_pos c7] at H
  have c7b0 : decide ((ji5) < (ji3)) = true := decide_eq_true c7
  clear c7
  simp only [Option.some.injEq, Prod.mk.injEq] at H
  obtain ⟨rfl, rfl, rfl⟩ := H
  go_enter Try.func10, Try.ntmps10
  go_wp2_with (first | ((with_reducible refine gate_dst (N := 2) rfl ?_); refine box_event ?hg (N := 2) ?hd (cs := #[.int .u32 a0_0, .int .u32 a0_1]) (t := 24) ?hr ?_; (case hd => rfl); (case hg => rfl); (case hr => first | (go_simp; done) | (go_simp; rfl)); intro gb1 hg w8 hbox hb; have n0_ := Aside0.mk (below_step (by repeat (first | (with_reducible first | exact HB.out | apply below_alloc | apply pw_below_drewN | apply below_drew1) | exact HB.out)) hb); have n1_ := Aside0.mk (hbox); have n2_ := Aside0.mk ((by rw [hg]; exact (below_size (by repeat (first | (with_reducible first | exact HB.out | apply below_alloc | apply pw_below_drewN | apply below_drew1) | exact HB.out))) : w.heap.size ≤ gb1)); have n3_ := Aside0.mk ((by rw [hg]; exact (below_size (by repeat (first | (with_reducible first | exact HB.out | apply below_alloc | apply pw_below_drewN | apply below_drew1) | exact HB.out))) : w.heap.size ≤ gb1)); clear HB; have HB := n0_; have BK1 := n1_; have GW1 := n2_; have GE1 := n3_; clear n0_ n1_ n2_ n3_; clear hb hbox hg) | ((with_reducible refine gate_dst (N := 3) rfl ?_); refine box_event ?hg (N := 3) ?hd (cs := #[.int .u32 a1_0, .int .u32 a1_1]) (t := 24) ?hr ?_; (case hd => rfl); (case hg => rfl); (case hr => first | (go_simp; done) | (go_simp; rfl)); intro gb2 hg w9 hbox hb; have n0_ := Aside0.mk (blk_below (g := gb1) (o := .cells #[.int .u32 a0_0, .int .u32 a0_1] 24 (0, 0)) (by (with_reducible repeat (first | refine blk_drewN ?_ _ | refine blk_drew ?_ | refine blk_alloc ?_ _)); exact BK1.out) hb); have n1_ := Aside0.mk (below_step (by repeat (first | (with_reducible first | exact HB.out | apply below_alloc | apply pw_below_drewN | apply below_drew1 | refine below_set ?_ GE1.out) | exact HB.out)) hb); have n2_ := Aside0.mk (hbox); have n3_ := Aside0.mk ((by rw [hg]; exact (below_size (by repeat (first | (with_reducible first | exact HB.out | apply below_alloc | apply pw_below_drewN | apply below_drew1 | refine below_set ?_ GE1.out) | exact HB.out))) : w.heap.size ≤ gb2)); have n4_ := Aside0.mk ((by rw [hg]; exact (below_size (by repeat (first | (with_reducible first | exact HB.out | apply below_alloc | apply pw_below_drewN | apply below_drew1 | refine below_set ?_ GE1.out) | exact HB.out))) : w.heap.size ≤ gb2)); have n5_ := Aside0.mk ((by rw [hg]; exact Nat.ne_of_lt (blk_lt (g := gb1) (o := .cells #[.int .u32 a0_0, .int .u32 a0_1] 24 (0, 0)) (by (with_reducible repeat (first | refine blk_drewN ?_ _ | refine blk_drew ?_ | refine blk_alloc ?_ _)); exact BK1.out)) : gb1 ≠ gb2)); have n6_ := Aside0.mk ((by rw [hg]; exact Nat.ne_of_gt (blk_lt (g := gb1) (o := .cells #[.int .u32 a0_0, .int .u32 a0_1] 24 (0, 0)) (by (with_reducible repeat (first | refine blk_drewN ?_ _ | refine blk_drew ?_ | refine blk_alloc ?_ _)); exact BK1.out)) : gb2 ≠ gb1)); clear BK1; clear HB; have BK1 := n0_; have HB := n1_; have BK2 := n2_; have GW2 := n3_; have GE2 := n4_; have NB1_2 := n5_; have NB2_1 := n6_; clear n0_ n1_ n2_ n3_ n4_ n5_ n6_; clear hb hbox hg) | ((with_reducible refine gate_dst (N := 4) rfl ?_); refine box_event ?hg (N := 4) ?hd (cs := #[.int .u32 0, .int .u32 0]) (t := 24) ?hr ?_; (case hd => rfl); (case hg => rfl); (case hr => first | (go_simp; done) | (go_simp; rfl)); intro gb3 hg w10 hbox hb; have n0_ := Aside0.mk (blk_below (g := gb1) (o := .cells #[.int .u32 a0_0, .int .u32 a0_1] 24 (0, 0)) (by (with_reducible repeat (first | refine blk_drewN ?_ _ | refine blk_drew ?_ | refine blk_alloc ?_ _)); exact BK1.out) hb); have n1_ := Aside0.mk (blk_below (g := gb2) (o := .cells #[.int .u32 a1_0, .int .u32 a1_1] 24 (0, 0)) (by (with_reducible repeat (first | refine blk_drewN ?_ _ | refine blk_drew ?_ | refine blk_alloc ?_ _)); exact BK2.out) hb); have n2_ := Aside0.mk (below_step (by repeat (first | (with_reducible first | exact HB.out | apply below_alloc | apply pw_below_drewN | apply below_drew1 | refine below_set ?_ GE1.out | refine below_set ?_ GE2.out) | exact HB.out)) hb); have n3_ := Aside0.mk (hbox); have n4_ := Aside0.mk ((by rw [hg]; exact (below_size (by repeat (first | (with_reducible first | exact HB.out | apply below_alloc | apply pw_below_drewN | apply below_drew1 | refine below_set ?_ GE1.out | refine below_set ?_ GE2.out) | exact HB.out))) : w.heap.size ≤ gb3)); have n5_ := Aside0.mk ((by rw [hg]; exact (below_size (by repeat (first | (with_reducible first | exact HB.out | apply below_alloc | apply pw_below_drewN | apply below_drew1 | refine below_set ?_ GE1.out | refine below_set ?_ GE2.out) | exact HB.out))) : w.heap.size ≤ gb3)); have n6_ := Aside0.mk ((by rw [hg]; exact Nat.ne_of_lt (blk_lt (g := gb1) (o := .cells #[.int .u32 a0_0, .int .u32 a0_1] 24 (0, 0)) (by (with_reducible repeat (first | refine blk_drewN ?_ _ | refine blk_drew ?_ | refine blk_alloc ?_ _)); exact BK1.out)) : gb1 ≠ gb3)); have n7_ := Aside0.mk ((by rw [hg]; exact Nat.ne_of_gt (blk_lt (g := gb1) (o := .cells #[.int .u32 a0_0, .int .u32 a0_1] 24 (0, 0)) (by (with_reducible repeat (first | refine blk_drewN ?_ _ | refine blk_drew ?_ | refine blk_alloc ?_ _)); exact BK1.out)) : gb3 ≠ gb1)); have n8_ := Aside0.mk ((by rw [hg]; exact Nat.ne_of_lt (blk_lt (g := gb2) (o := .cells #[.int .u32 a1_0, .int .u32 a1_1] 24 (0, 0)) (by (with_reducible repeat (first | refine blk_drewN ?_ _ | refine blk_drew ?_ | refine blk_alloc ?_ _)); exact BK2.out)) : gb2 ≠ gb3)); have n9_ := Aside0.mk ((by rw [hg]; exact Nat.ne_of_gt (blk_lt (g := gb2) (o := .cells #[.int .u32 a1_0, .int .u32 a1_1] 24 (0, 0)) (by (with_reducible repeat (first | refine blk_drewN ?_ _ | refine blk_drew ?_ | refine blk_alloc ?_ _)); exact BK2.out)) : gb3 ≠ gb2)); clear BK1; clear BK2; clear HB; have BK1 := n0_; have BK2 := n1_; have HB := n2_; have BK3 := n3_; have GW3 := n4_; have GE3 := n5_; have NB1_3 := n6_; have NB3_1 := n7_; have NB2_3 := n8_; have NB3_2 := n9_; clear n0_ n1_ n2_ n3_ n4_ n5_ n6_ n7_ n8_ n9_; clear hb hbox hg; have hnb11 := NB1_2.out; have hnc11 := NB2_1.out; have hnb12 := NB1_3.out; have hnc12 := NB3_1.out; have hcz13_0 : w10.cell? ⟨gb1, 0, none⟩ = some (.int .u32 a0_0) := (blk_cell BK1.out 0).trans rfl; have hcz13_1 : w10.cell? ⟨gb1, 1, none⟩ = some (.int .u32 a0_1) := (blk_cell BK1.out 1).trans rfl; have hfz13_0 := blk_frozen BK1.out 0; have hfz13_1 := blk_frozen BK1.out 1; have hnb14 := NB2_3.out; have hnc14 := NB3_2.out; have hcz15_0 : w10.cell? ⟨gb2, 0, none⟩ = some (.int .u32 a1_0) := (blk_cell BK2.out 0).trans rfl; have hcz15_1 : w10.cell? ⟨gb2, 1, none⟩ = some (.int .u32 a1_1) := (blk_cell BK2.out 1).trans rfl; have hfz15_0 := blk_frozen BK2.out 0; have hfz15_1 := blk_frozen BK2.out 1; have hcz16_0 : w10.cell? ⟨gb3, 0, none⟩ = some (.int .u32 0) := (blk_cell BK3.out 0).trans rfl; have hcz16_1 : w10.cell? ⟨gb3, 1, none⟩ = some (.int .u32 0) := (blk_cell BK3.out 1).trans rfl; have hfz16_0 := blk_frozen BK3.out 0; have hfz16_1 := blk_frozen BK3.out 1))
  repeat (go_quiet (first | ((with_reducible refine gate_dst (N := 2) rfl ?_); refine box_event ?hg (N := 2) ?hd (cs := #[.int .u32 a0_0, .int .u32 a0_1]) (t := 24) ?hr ?_; (case hd => rfl); (case hg => rfl); (case hr => first | (go_simp; done) | (go_simp; rfl)); intro gb1 hg w8 hbox hb; have n0_ := Aside0.mk (below_step (by repeat (first | (with_reducible first | exact HB.out | apply below_alloc | apply pw_below_drewN | apply below_drew1) | exact HB.out)) hb); have n1_ := Aside0.mk (hbox); have n2_ := Aside0.mk ((by rw [hg]; exact (below_size (by repeat (first | (with_reducible first | exact HB.out | apply below_alloc | apply pw_below_drewN | apply below_drew1) | exact HB.out))) : w.heap.size ≤ gb1)); have n3_ := Aside0.mk ((by rw [hg]; exact (below_size (by repeat (first | (with_reducible first | exact HB.out | apply below_alloc | apply pw_below_drewN | apply below_drew1) | exact HB.out))) : w.heap.size ≤ gb1)); clear HB; have HB := n0_; have BK1 := n1_; have GW1 := n2_; have GE1 := n3_; clear n0_ n1_ n2_ n3_; clear hb hbox hg) | ((with_reducible refine gate_dst (N := 3) rfl ?_); refine box_event ?hg (N := 3) ?hd (cs := #[.int .u32 a1_0, .int .u32 a1_1]) (t := 24) ?hr ?_; (case hd => rfl); (case hg => rfl); (case hr => first | (go_simp; done) | (go_simp; rfl)); intro gb2 hg w9 hbox hb; have n0_ := Aside0.mk (blk_below (g := gb1) (o := .cells #[.int .u32 a0_0, .int .u32 a0_1] 24 (0, 0)) (by (with_reducible repeat (first | refine blk_drewN ?_ _ | refine blk_drew ?_ | refine blk_alloc ?_ _)); exact BK1.out) hb); have n1_ := Aside0.mk (below_step (by repeat (first | (with_reducible first | exact HB.out | apply below_alloc | apply pw_below_drewN | apply below_drew1 | refine below_set ?_ GE1.out) | exact HB.out)) hb); have n2_ := Aside0.mk (hbox); have n3_ := Aside0.mk ((by rw [hg]; exact (below_size (by repeat (first | (with_reducible first | exact HB.out | apply below_alloc | apply pw_below_drewN | apply below_drew1 | refine below_set ?_ GE1.out) | exact HB.out))) : w.heap.size ≤ gb2)); have n4_ := Aside0.mk ((by rw [hg]; exact (below_size (by repeat (first | (with_reducible first | exact HB.out | apply below_alloc | apply pw_below_drewN | apply below_drew1 | refine below_set ?_ GE1.out) | exact HB.out))) : w.heap.size ≤ gb2)); have n5_ := Aside0.mk ((by rw [hg]; exact Nat.ne_of_lt (blk_lt (g := gb1) (o := .cells #[.int .u32 a0_0, .int .u32 a0_1] 24 (0, 0)) (by (with_reducible repeat (first | refine blk_drewN ?_ _ | refine blk_drew ?_ | refine blk_alloc ?_ _)); exact BK1.out)) : gb1 ≠ gb2)); have n6_ := Aside0.mk ((by rw [hg]; exact Nat.ne_of_gt (blk_lt (g := gb1) (o := .cells #[.int .u32 a0_0, .int .u32 a0_1] 24 (0, 0)) (by (with_reducible repeat (first | refine blk_drewN ?_ _ | refine blk_drew ?_ | refine blk_alloc ?_ _)); exact BK1.out)) : gb2 ≠ gb1)); clear BK1; clear HB; have BK1 := n0_; have HB := n1_; have BK2 := n2_; have GW2 := n3_; have GE2 := n4_; have NB1_2 := n5_; have NB2_1 := n6_; clear n0_ n1_ n2_ n3_ n4_ n5_ n6_; clear hb hbox hg) | ((with_reducible refine gate_dst (N := 4) rfl ?_); refine box_event ?hg (N := 4) ?hd (cs := #[.int .u32 0, .int .u32 0]) (t := 24) ?hr ?_; (case hd => rfl); (case hg => rfl); (case hr => first | (go_simp; done) | (go_simp; rfl)); intro gb3 hg w10 hbox hb; have n0_ := Aside0.mk (blk_below (g := gb1) (o := .cells #[.int .u32 a0_0, .int .u32 a0_1] 24 (0, 0)) (by (with_reducible repeat (first | refine blk_drewN ?_ _ | refine blk_drew ?_ | refine blk_alloc ?_ _)); exact BK1.out) hb); have n1_ := Aside0.mk (blk_below (g := gb2) (o := .cells #[.int .u32 a1_0, .int .u32 a1_1] 24 (0, 0)) (by (with_reducible repeat (first | refine blk_drewN ?_ _ | refine blk_drew ?_ | refine blk_alloc ?_ _)); exact BK2.out) hb); have n2_ := Aside0.mk (below_step (by repeat (first | (with_reducible first | exact HB.out | apply below_alloc | apply pw_below_drewN | apply below_drew1 | refine below_set ?_ GE1.out | refine below_set ?_ GE2.out) | exact HB.out)) hb); have n3_ := Aside0.mk (hbox); have n4_ := Aside0.mk ((by rw [hg]; exact (below_size (by repeat (first | (with_reducible first | exact HB.out | apply below_alloc | apply pw_below_drewN | apply below_drew1 | refine below_set ?_ GE1.out | refine below_set ?_ GE2.out) | exact HB.out))) : w.heap.size ≤ gb3)); have n5_ := Aside0.mk ((by rw [hg]; exact (below_size (by repeat (first | (with_reducible first | exact HB.out | apply below_alloc | apply pw_below_drewN | apply below_drew1 | refine below_set ?_ GE1.out | refine below_set ?_ GE2.out) | exact HB.out))) : w.heap.size ≤ gb3)); have n6_ := Aside0.mk ((by rw [hg]; exact Nat.ne_of_lt (blk_lt (g := gb1) (o := .cells #[.int .u32 a0_0, .int .u32 a0_1] 24 (0, 0)) (by (with_reducible repeat (first | refine blk_drewN ?_ _ | refine blk_drew ?_ | refine blk_alloc ?_ _)); exact BK1.out)) : gb1 ≠ gb3)); have n7_ := Aside0.mk ((by rw [hg]; exact Nat.ne_of_gt (blk_lt (g := gb1) (o := .cells #[.int .u32 a0_0, .int .u32 a0_1] 24 (0, 0)) (by (with_reducible repeat (first | refine blk_drewN ?_ _ | refine blk_drew ?_ | refine blk_alloc ?_ _)); exact BK1.out)) : gb3 ≠ gb1)); have n8_ := Aside0.mk ((by rw [hg]; exact Nat.ne_of_lt (blk_lt (g := gb2) (o := .cells #[.int .u32 a1_0, .int .u32 a1_1] 24 (0, 0)) (by (with_reducible repeat (first | refine blk_drewN ?_ _ | refine blk_drew ?_ | refine blk_alloc ?_ _)); exact BK2.out)) : gb2 ≠ gb3)); have n9_ := Aside0.mk ((by rw [hg]; exact Nat.ne_of_gt (blk_lt (g := gb2) (o := .cells #[.int .u32 a1_0, .int .u32 a1_1] 24 (0, 0)) (by (with_reducible repeat (first | refine blk_drewN ?_ _ | refine blk_drew ?_ | refine blk_alloc ?_ _)); exact BK2.out)) : gb3 ≠ gb2)); clear BK1; clear BK2; clear HB; have BK1 := n0_; have BK2 := n1_; have HB := n2_; have BK3 := n3_; have GW3 := n4_; have GE3 := n5_; have NB1_3 := n6_; have NB3_1 := n7_; have NB2_3 := n8_; have NB3_2 := n9_; clear n0_ n1_ n2_ n3_ n4_ n5_ n6_ n7_ n8_ n9_; clear hb hbox hg; have hnb11 := NB1_2.out; have hnc11 := NB2_1.out; have hnb12 := NB1_3.out; have hnc12 := NB3_1.out; have hcz13_0 : w10.cell? ⟨gb1, 0, none⟩ = some (.int .u32 a0_0) := (blk_cell BK1.out 0).trans rfl; have hcz13_1 : w10.cell? ⟨gb1, 1, none⟩ = some (.int .u32 a0_1) := (blk_cell BK1.out 1).trans rfl; have hfz13_0 := blk_frozen BK1.out 0; have hfz13_1 := blk_frozen BK1.out 1; have hnb14 := NB2_3.out; have hnc14 := NB3_2.out; have hcz15_0 : w10.cell? ⟨gb2, 0, none⟩ = some (.int .u32 a1_0) := (blk_cell BK2.out 0).trans rfl; have hcz15_1 : w10.cell? ⟨gb2, 1, none⟩ = some (.int .u32 a1_1) := (blk_cell BK2.out 1).trans rfl; have hfz15_0 := blk_frozen BK2.out 0; have hfz15_1 := blk_frozen BK2.out 1; have hcz16_0 : w10.cell? ⟨gb3, 0, none⟩ = some (.int .u32 0) := (blk_cell BK3.out 0).trans rfl; have hcz16_1 : w10.cell? ⟨gb3, 1, none⟩ = some (.int .u32 0) := (blk_cell BK3.out 1).trans rfl; have hfz16_0 := blk_frozen BK3.out 0; have hfz16_1 := blk_frozen BK3.out 1)); try go_wp2_with (first | ((with_reducible refine gate_dst (N := 2) rfl ?_); refine box_event ?hg (N := 2) ?hd (cs := #[.int .u32 a0_0, .int .u32 a0_1]) (t := 24) ?hr ?_; (case hd => rfl); (case hg => rfl); (case hr => first | (go_simp; done) | (go_simp; rfl)); intro gb1 hg w8 hbox hb; have n0_ := Aside0.mk (below_step (by repeat (first | (with_reducible first | exact HB.out | apply below_alloc | apply pw_below_drewN | apply below_drew1) | exact HB.out)) hb); have n1_ := Aside0.mk (hbox); have n2_ := Aside0.mk ((by rw [hg]; exact (below_size (by repeat (first | (with_reducible first | exact HB.out | apply below_alloc | apply pw_below_drewN | apply below_drew1) | exact HB.out))) : w.heap.size ≤ gb1)); have n3_ := Aside0.mk ((by rw [hg]; exact (below_size (by repeat (first | (with_reducible first | exact HB.out | apply below_alloc | apply pw_below_drewN | apply below_drew1) | exact HB.out))) : w.heap.size ≤ gb1)); clear HB; have HB := n0_; have BK1 := n1_; have GW1 := n2_; have GE1 := n3_; clear n0_ n1_ n2_ n3_; clear hb hbox hg) | ((with_reducible refine gate_dst (N := 3) rfl ?_); refine box_event ?hg (N := 3) ?hd (cs := #[.int .u32 a1_0, .int .u32 a1_1]) (t := 24) ?hr ?_; (case hd => rfl); (case hg => rfl); (case hr => first | (go_simp; done) | (go_simp; rfl)); intro gb2 hg w9 hbox hb; have n0_ := Aside0.mk (blk_below (g := gb1) (o := .cells #[.int .u32 a0_0, .int .u32 a0_1] 24 (0, 0)) (by (with_reducible repeat (first | refine blk_drewN ?_ _ | refine blk_drew ?_ | refine blk_alloc ?_ _)); exact BK1.out) hb); have n1_ := Aside0.mk (below_step (by repeat (first | (with_reducible first | exact HB.out | apply below_alloc | apply pw_below_drewN | apply below_drew1 | refine below_set ?_ GE1.out) | exact HB.out)) hb); have n2_ := Aside0.mk (hbox); have n3_ := Aside0.mk ((by rw [hg]; exact (below_size (by repeat (first | (with_reducible first | exact HB.out | apply below_alloc | apply pw_below_drewN | apply below_drew1 | refine below_set ?_ GE1.out) | exact HB.out))) : w.heap.size ≤ gb2)); have n4_ := Aside0.mk ((by rw [hg]; exact (below_size (by repeat (first | (with_reducible first | exact HB.out | apply below_alloc | apply pw_below_drewN | apply below_drew1 | refine below_set ?_ GE1.out) | exact HB.out))) : w.heap.size ≤ gb2)); have n5_ := Aside0.mk ((by rw [hg]; exact Nat.ne_of_lt (blk_lt (g := gb1) (o := .cells #[.int .u32 a0_0, .int .u32 a0_1] 24 (0, 0)) (by (with_reducible repeat (first | refine blk_drewN ?_ _ | refine blk_drew ?_ | refine blk_alloc ?_ _)); exact BK1.out)) : gb1 ≠ gb2)); have n6_ := Aside0.mk ((by rw [hg]; exact Nat.ne_of_gt (blk_lt (g := gb1) (o := .cells #[.int .u32 a0_0, .int .u32 a0_1] 24 (0, 0)) (by (with_reducible repeat (first | refine blk_drewN ?_ _ | refine blk_drew ?_ | refine blk_alloc ?_ _)); exact BK1.out)) : gb2 ≠ gb1)); clear BK1; clear HB; have BK1 := n0_; have HB := n1_; have BK2 := n2_; have GW2 := n3_; have GE2 := n4_; have NB1_2 := n5_; have NB2_1 := n6_; clear n0_ n1_ n2_ n3_ n4_ n5_ n6_; clear hb hbox hg) | ((with_reducible refine gate_dst (N := 4) rfl ?_); refine box_event ?hg (N := 4) ?hd (cs := #[.int .u32 0, .int .u32 0]) (t := 24) ?hr ?_; (case hd => rfl); (case hg => rfl); (case hr => first | (go_simp; done) | (go_simp; rfl)); intro gb3 hg w10 hbox hb; have n0_ := Aside0.mk (blk_below (g := gb1) (o := .cells #[.int .u32 a0_0, .int .u32 a0_1] 24 (0, 0)) (by (with_reducible repeat (first | refine blk_drewN ?_ _ | refine blk_drew ?_ | refine blk_alloc ?_ _)); exact BK1.out) hb); have n1_ := Aside0.mk (blk_below (g := gb2) (o := .cells #[.int .u32 a1_0, .int .u32 a1_1] 24 (0, 0)) (by (with_reducible repeat (first | refine blk_drewN ?_ _ | refine blk_drew ?_ | refine blk_alloc ?_ _)); exact BK2.out) hb); have n2_ := Aside0.mk (below_step (by repeat (first | (with_reducible first | exact HB.out | apply below_alloc | apply pw_below_drewN | apply below_drew1 | refine below_set ?_ GE1.out | refine below_set ?_ GE2.out) | exact HB.out)) hb); have n3_ := Aside0.mk (hbox); have n4_ := Aside0.mk ((by rw [hg]; exact (below_size (by repeat (first | (with_reducible first | exact HB.out | apply below_alloc | apply pw_below_drewN | apply below_drew1 | refine below_set ?_ GE1.out | refine below_set ?_ GE2.out) | exact HB.out))) : w.heap.size ≤ gb3)); have n5_ := Aside0.mk ((by rw [hg]; exact (below_size (by repeat (first | (with_reducible first | exact HB.out | apply below_alloc | apply pw_below_drewN | apply below_drew1 | refine below_set ?_ GE1.out | refine below_set ?_ GE2.out) | exact HB.out))) : w.heap.size ≤ gb3)); have n6_ := Aside0.mk ((by rw [hg]; exact Nat.ne_of_lt (blk_lt (g := gb1) (o := .cells #[.int .u32 a0_0, .int .u32 a0_1] 24 (0, 0)) (by (with_reducible repeat (first | refine blk_drewN ?_ _ | refine blk_drew ?_ | refine blk_alloc ?_ _)); exact BK1.out)) : gb1 ≠ gb3)); have n7_ := Aside0.mk ((by rw [hg]; exact Nat.ne_of_gt (blk_lt (g := gb1) (o := .cells #[.int .u32 a0_0, .int .u32 a0_1] 24 (0, 0)) (by (with_reducible repeat (first | refine blk_drewN ?_ _ | refine blk_drew ?_ | refine blk_alloc ?_ _)); exact BK1.out)) : gb3 ≠ gb1)); have n8_ := Aside0.mk ((by rw [hg]; exact Nat.ne_of_lt (blk_lt (g := gb2) (o := .cells #[.int .u32 a1_0, .int .u32 a1_1] 24 (0, 0)) (by (with_reducible repeat (first | refine blk_drewN ?_ _ | refine blk_drew ?_ | refine blk_alloc ?_ _)); exact BK2.out)) : gb2 ≠ gb3)); have n9_ := Aside0.mk ((by rw [hg]; exact Nat.ne_of_gt (blk_lt (g := gb2) (o := .cells #[.int .u32 a1_0, .int .u32 a1_1] 24 (0, 0)) (by (with_reducible repeat (first | refine blk_drewN ?_ _ | refine blk_drew ?_ | refine blk_alloc ?_ _)); exact BK2.out)) : gb3 ≠ gb2)); clear BK1; clear BK2; clear HB; have BK1 := n0_; have BK2 := n1_; have HB := n2_; have BK3 := n3_; have GW3 := n4_; have GE3 := n5_; have NB1_3 := n6_; have NB3_1 := n7_; have NB2_3 := n8_; have NB3_2 := n9_; clear n0_ n1_ n2_ n3_ n4_ n5_ n6_ n7_ n8_ n9_; clear hb hbox hg; have hnb11 := NB1_2.out; have hnc11 := NB2_1.out; have hnb12 := NB1_3.out; have hnc12 := NB3_1.out; have hcz13_0 : w10.cell? ⟨gb1, 0, none⟩ = some (.int .u32 a0_0) := (blk_cell BK1.out 0).trans rfl; have hcz13_1 : w10.cell? ⟨gb1, 1, none⟩ = some (.int .u32 a0_1) := (blk_cell BK1.out 1).trans rfl; have hfz13_0 := blk_frozen BK1.out 0; have hfz13_1 := blk_frozen BK1.out 1; have hnb14 := NB2_3.out; have hnc14 := NB3_2.out; have hcz15_0 : w10.cell? ⟨gb2, 0, none⟩ = some (.int .u32 a1_0) := (blk_cell BK2.out 0).trans rfl; have hcz15_1 : w10.cell? ⟨gb2, 1, none⟩ = some (.int .u32 a1_1) := (blk_cell BK2.out 1).trans rfl; have hfz15_0 := blk_frozen BK2.out 0; have hfz15_1 := blk_frozen BK2.out 1; have hcz16_0 : w10.cell? ⟨gb3, 0, none⟩ = some (.int .u32 0) := (blk_cell BK3.out 0).trans rfl; have hcz16_1 : w10.cell? ⟨gb3, 1, none⟩ = some (.int .u32 0) := (blk_cell BK3.out 1).trans rfl; have hfz16_0 := blk_frozen BK3.out 0; have hfz16_1 := blk_frozen BK3.out 1)))
  refine bodyPost_ret (results_ct rfl _ _ gb3 24 #[.int .u32 0, .int .u32 0] (0, 0) _ rfl (by (with_reducible repeat (first | refine blk_drewN ?_ _ | refine blk_drew ?_ | refine blk_alloc ?_ _)); refine blk_put (cs := #[.int .u32 0, .int .u32 0]) ?_ 1 _ rfl; (with_reducible repeat (first | refine blk_drewN ?_ _ | refine blk_drew ?_ | refine blk_alloc ?_ _)); refine blk_put (cs := #[.int .u32 0, .int .u32 0]) ?_ 0 _ rfl; (with_reducible repeat (first | refine blk_drewN ?_ _ | refine blk_drew ?_ | refine blk_alloc ?_ _)); exact BK3.out) Try.underlying24 rfl (by kernel_rfl)) rfl ?_
  exact ⟨by first | rfl | (simp [errW_none, errW_some] <;> rfl) | (simp only [← hji3, ← hji4, ← hji5, ← hji6]; first | rfl | (simp [errW_none, errW_some] <;> rfl)) | (simp [*, errW_none, errW_some] <;> rfl), by repeat (first | (with_reducible first | exact HB.out | apply below_alloc | apply pw_below_drewN | apply below_drew1 | refine below_set ?_ GE1.out | refine below_set ?_ GE2.out | refine below_set ?_ GE3.out) | exact HB.out)⟩
 ·
  rw [if_neg c7] at H
  have c7b0 : decide ((ji5) < (ji3)) = false := decide_eq_false c7
  clear c7
  by_cases c17 : (ji4) > (ji6)
  ·
   rw [if_pos c17] at H
   have c17b0 : decide ((ji6) < (ji4)) = true := decide_eq_true c17
   clear c17
   simp only [Option.some.injEq, Prod.mk.injEq] at H
   obtain ⟨rfl, rfl, rfl⟩ := H
   go_enter Try.func10, Try.ntmps10
   go_wp2_with (first | ((with_reducible refine gate_dst (N := 2) rfl ?_); refine box_event ?hg (N := 2) ?hd (cs := #[.int .u32 a0_0, .int .u32 a0_1]) (t := 24) ?hr ?_; (case hd => rfl); (case hg => rfl); (case hr => first | (go_simp; done) | (go_simp; rfl)); intro gb1 hg w18 hbox hb; have n0_ := Aside0.mk (below_step (by repeat (first | (with_reducible first | exact HB.out | apply below_alloc | apply pw_below_drewN | apply below_drew1) | exact HB.out)) hb); have n1_ := Aside0.mk (hbox); have n2_ := Aside0.mk ((by rw [hg]; exact (below_size (by repeat (first | (with_reducible first | exact HB.out | apply below_alloc | apply pw_below_drewN | apply below_drew1) | exact HB.out))) : w.heap.size ≤ gb1)); have n3_ := Aside0.mk ((by rw [hg]; exact (below_size (by repeat (first | (with_reducible first | exact HB.out | apply below_alloc | apply pw_below_drewN | apply below_drew1) | exact HB.out))) : w.heap.size ≤ gb1)); clear HB; have HB := n0_; have BK1 := n1_; have GW1 := n2_; have GE1 := n3_; clear n0_ n1_ n2_ n3_; clear hb hbox hg) | ((with_reducible refine gate_dst (N := 3) rfl ?_); refine box_event ?hg (N := 3) ?hd (cs := #[.int .u32 a1_0, .int .u32 a1_1]) (t := 24) ?hr ?_; (case hd => rfl); (case hg => rfl); (case hr => first | (go_simp; done) | (go_simp; rfl)); intro gb2 hg w19 hbox hb; have n0_ := Aside0.mk (blk_below (g := gb1) (o := .cells #[.int .u32 a0_0, .int .u32 a0_1] 24 (0, 0)) (by (with_reducible repeat (first | refine blk_drewN ?_ _ | refine blk_drew ?_ | refine blk_alloc ?_ _)); exact BK1.out) hb); have n1_ := Aside0.mk (below_step (by repeat (first | (with_reducible first | exact HB.out | apply below_alloc | apply pw_below_drewN | apply below_drew1 | refine below_set ?_ GE1.out) | exact HB.out)) hb); have n2_ := Aside0.mk (hbox); have n3_ := Aside0.mk ((by rw [hg]; exact (below_size (by repeat (first | (with_reducible first | exact HB.out | apply below_alloc | apply pw_below_drewN | apply below_drew1 | refine below_set ?_ GE1.out) | exact HB.out))) : w.heap.size ≤ gb2)); have n4_ := Aside0.mk ((by rw [hg]; exact (below_size (by repeat (first | (with_reducible first | exact HB.out | apply below_alloc | apply pw_below_drewN | apply below_drew1 | refine below_set ?_ GE1.out) | exact HB.out))) : w.heap.size ≤ gb2)); have n5_ := Aside0.mk ((by rw [hg]; exact Nat.ne_of_lt (blk_lt (g := gb1) (o := .cells #[.int .u32 a0_0, .int .u32 a0_1] 24 (0, 0)) (by (with_reducible repeat (first | refine blk_drewN ?_ _ | refine blk_drew ?_ | refine blk_alloc ?_ _)); exact BK1.out)) : gb1 ≠ gb2)); have n6_ := Aside0.mk ((by rw [hg]; exact Nat.ne_of_gt (blk_lt (g := gb1) (o := .cells #[.int .u32 a0_0, .int .u32 a0_1] 24 (0, 0)) (by (with_reducible repeat (first | refine blk_drewN ?_ _ | refine blk_drew ?_ | refine blk_alloc ?_ _)); exact BK1.out)) : gb2 ≠ gb1)); clear BK1; clear HB; have BK1 := n0_; have HB := n1_; have BK2 := n2_; have GW2 := n3_; have GE2 := n4_; have NB1_2 := n5_; have NB2_1 := n6_; clear n0_ n1_ n2_ n3_ n4_ n5_ n6_; clear hb hbox hg) | ((with_reducible refine gate_dst (N := 4) rfl ?_); refine box_event ?hg (N := 4) ?hd (cs := #[.int .u32 0, .int .u32 0]) (t := 24) ?hr ?_; (case hd => rfl); (case hg => rfl); (case hr => first | (go_simp; done) | (go_simp; rfl)); intro gb3 hg w20 hbox hb; have n0_ := Aside0.mk (blk_below (g := gb1) (o := .cells #[.int .u32 a0_0, .int .u32 a0_1] 24 (0, 0)) (by (with_reducible repeat (first | refine blk_drewN ?_ _ | refine blk_drew ?_ | refine blk_alloc ?_ _)); exact BK1.out) hb); have n1_ := Aside0.mk (blk_below (g := gb2) (o := .cells #[.int .u32 a1_0, .int .u32 a1_1] 24 (0, 0)) (by (with_reducible repeat (first | refine blk_drewN ?_ _ | refine blk_drew ?_ | refine blk_alloc ?_ _)); exact BK2.out) hb); have n2_ := Aside0.mk (below_step (by repeat (first | (with_reducible first | exact HB.out | apply below_alloc | apply pw_below_drewN | apply below_drew1 | refine below_set ?_ GE1.out | refine below_set ?_ GE2.out) | exact HB.out)) hb); have n3_ := Aside0.mk (hbox); have n4_ := Aside0.mk ((by rw [hg]; exact (below_size (by repeat (first | (with_reducible first | exact HB.out | apply below_alloc | apply pw_below_drewN | apply below_drew1 | refine below_set ?_ GE1.out | refine below_set ?_ GE2.out) | exact HB.out))) : w.heap.size ≤ gb3)); have n5_ := Aside0.mk ((by rw [hg]; exact (below_size (by repeat (first | (with_reducible first | exact HB.out | apply below_alloc | apply pw_below_drewN | apply below_drew1 | refine below_set ?_ GE1.out | refine below_set ?_ GE2.out) | exact HB.out))) : w.heap.size ≤ gb3)); have n6_ := Aside0.mk ((by rw [hg]; exact Nat.ne_of_lt (blk_lt (g := gb1) (o := .cells #[.int .u32 a0_0, .int .u32 a0_1] 24 (0, 0)) (by (with_reducible repeat (first | refine blk_drewN ?_ _ | refine blk_drew ?_ | refine blk_alloc ?_ _)); exact BK1.out)) : gb1 ≠ gb3)); have n7_ := Aside0.mk ((by rw [hg]; exact Nat.ne_of_gt (blk_lt (g := gb1) (o := .cells #[.int .u32 a0_0, .int .u32 a0_1] 24 (0, 0)) (by (with_reducible repeat (first | refine blk_drewN ?_ _ | refine blk_drew ?_ | refine blk_alloc ?_ _)); exact BK1.out)) : gb3 ≠ gb1)); have n8_ := Aside0.mk ((by rw [hg]; exact Nat.ne_of_lt (blk_lt (g := gb2) (o := .cells #[.int .u32 a1_0, .int .u32 a1_1] 24 (0, 0)) (by (with_reducible repeat (first | refine blk_drewN ?_ _ | refine blk_drew ?_ | refine blk_alloc ?_ _)); exact BK2.out)) : gb2 ≠ gb3)); have n9_ := Aside0.mk ((by rw [hg]; exact Nat.ne_of_gt (blk_lt (g := gb2) (o := .cells #[.int .u32 a1_0, .int .u32 a1_1] 24 (0, 0)) (by (with_reducible repeat (first | refine blk_drewN ?_ _ | refine blk_drew ?_ | refine blk_alloc ?_ _)); exact BK2.out)) : gb3 ≠ gb2)); clear BK1; clear BK2; clear HB; have BK1 := n0_; have BK2 := n1_; have HB := n2_; have BK3 := n3_; have GW3 := n4_; have GE3 := n5_; have NB1_3 := n6_; have NB3_1 := n7_; have NB2_3 := n8_; have NB3_2 := n9_; clear n0_ n1_ n2_ n3_ n4_ n5_ n6_ n7_ n8_ n9_; clear hb hbox hg; have hnb21 := NB1_2.out; have hnc21 := NB2_1.out; have hnb22 := NB1_3.out; have hnc22 := NB3_1.out; have hcz23_0 : w20.cell? ⟨gb1, 0, none⟩ = some (.int .u32 a0_0) := (blk_cell BK1.out 0).trans rfl; have hcz23_1 : w20.cell? ⟨gb1, 1, none⟩ = some (.int .u32 a0_1) := (blk_cell BK1.out 1).trans rfl; have hfz23_0 := blk_frozen BK1.out 0; have hfz23_1 := blk_frozen BK1.out 1; have hnb24 := NB2_3.out; have hnc24 := NB3_2.out; have hcz25_0 : w20.cell? ⟨gb2, 0, none⟩ = some (.int .u32 a1_0) := (blk_cell BK2.out 0).trans rfl; have hcz25_1 : w20.cell? ⟨gb2, 1, none⟩ = some (.int .u32 a1_1) := (blk_cell BK2.out 1).trans rfl; have hfz25_0 := blk_frozen BK2.out 0; have hfz25_1 := blk_frozen BK2.out 1; have hcz26_0 : w20.cell? ⟨gb3, 0, none⟩ = some (.int .u32 0) := (blk_cell BK3.out 0).trans rfl; have hcz26_1 : w20.cell? ⟨gb3, 1, none⟩ = some (.int .u32 0) := (blk_cell BK3.out 1).trans rfl; have hfz26_0 := blk_frozen BK3.out 0; have hfz26_1 := blk_frozen BK3.out 1))
   repeat (go_quiet (first | ((with_reducible refine gate_dst (N := 2) rfl ?_); refine box_event ?hg (N := 2) ?hd (cs := #[.int .u32 a0_0, .int .u32 a0_1]) (t := 24) ?hr ?_; (case hd => rfl); (case hg => rfl); (case hr => first | (go_simp; done) | (go_simp; rfl)); intro gb1 hg w18 hbox hb; have n0_ := Aside0.mk (below_step (by repeat (first | (with_reducible first | exact HB.out | apply below_alloc | apply pw_below_drewN | apply below_drew1) | exact HB.out)) hb); have n1_ := Aside0.mk (hbox); have n2_ := Aside0.mk ((by rw [hg]; exact (below_size (by repeat (first | (with_reducible first | exact HB.out | apply below_alloc | apply pw_below_drewN | apply below_drew1) | exact HB.out))) : w.heap.size ≤ gb1)); have n3_ := Aside0.mk ((by rw [hg]; exact (below_size (by repeat (first | (with_reducible first | exact HB.out | apply below_alloc | apply pw_below_drewN | apply below_drew1) | exact HB.out))) : w.heap.size ≤ gb1)); clear HB; have HB := n0_; have BK1 := n1_; have GW1 := n2_; have GE1 := n3_; clear n0_ n1_ n2_ n3_; clear hb hbox hg) | ((with_reducible refine gate_dst (N := 3) rfl ?_); refine box_event ?hg (N := 3) ?hd (cs := #[.int .u32 a1_0, .int .u32 a1_1]) (t := 24) ?hr ?_; (case hd => rfl); (case hg => rfl); (case hr => first | (go_simp; done) | (go_simp; rfl)); intro gb2 hg w19 hbox hb; have n0_ := Aside0.mk (blk_below (g := gb1) (o := .cells #[.int .u32 a0_0, .int .u32 a0_1] 24 (0, 0)) (by (with_reducible repeat (first | refine blk_drewN ?_ _ | refine blk_drew ?_ | refine blk_alloc ?_ _)); exact BK1.out) hb); have n1_ := Aside0.mk (below_step (by repeat (first | (with_reducible first | exact HB.out | apply below_alloc | apply pw_below_drewN | apply below_drew1 | refine below_set ?_ GE1.out) | exact HB.out)) hb); have n2_ := Aside0.mk (hbox); have n3_ := Aside0.mk ((by rw [hg]; exact (below_size (by repeat (first | (with_reducible first | exact HB.out | apply below_alloc | apply pw_below_drewN | apply below_drew1 | refine below_set ?_ GE1.out) | exact HB.out))) : w.heap.size ≤ gb2)); have n4_ := Aside0.mk ((by rw [hg]; exact (below_size (by repeat (first | (with_reducible first | exact HB.out | apply below_alloc | apply pw_below_drewN | apply below_drew1 | refine below_set ?_ GE1.out) | exact HB.out))) : w.heap.size ≤ gb2)); have n5_ := Aside0.mk ((by rw [hg]; exact Nat.ne_of_lt (blk_lt (g := gb1) (o := .cells #[.int .u32 a0_0, .int .u32 a0_1] 24 (0, 0)) (by (with_reducible repeat (first | refine blk_drewN ?_ _ | refine blk_drew ?_ | refine blk_alloc ?_ _)); exact BK1.out)) : gb1 ≠ gb2)); have n6_ := Aside0.mk ((by rw [hg]; exact Nat.ne_of_gt (blk_lt (g := gb1) (o := .cells #[.int .u32 a0_0, .int .u32 a0_1] 24 (0, 0)) (by (with_reducible repeat (first | refine blk_drewN ?_ _ | refine blk_drew ?_ | refine blk_alloc ?_ _)); exact BK1.out)) : gb2 ≠ gb1)); clear BK1; clear HB; have BK1 := n0_; have HB := n1_; have BK2 := n2_; have GW2 := n3_; have GE2 := n4_; have NB1_2 := n5_; have NB2_1 := n6_; clear n0_ n1_ n2_ n3_ n4_ n5_ n6_; clear hb hbox hg) | ((with_reducible refine gate_dst (N := 4) rfl ?_); refine box_event ?hg (N := 4) ?hd (cs := #[.int .u32 0, .int .u32 0]) (t := 24) ?hr ?_; (case hd => rfl); (case hg => rfl); (case hr => first | (go_simp; done) | (go_simp; rfl)); intro gb3 hg w20 hbox hb; have n0_ := Aside0.mk (blk_below (g := gb1) (o := .cells #[.int .u32 a0_0, .int .u32 a0_1] 24 (0, 0)) (by (with_reducible repeat (first | refine blk_drewN ?_ _ | refine blk_drew ?_ | refine blk_alloc ?_ _)); exact BK1.out) hb); have n1_ := Aside0.mk (blk_below (g := gb2) (o := .cells #[.int .u32 a1_0, .int .u32 a1_1] 24 (0, 0)) (by (with_reducible repeat (first | refine blk_drewN ?_ _ | refine blk_drew ?_ | refine blk_alloc ?_ _)); exact BK2.out) hb); have n2_ := Aside0.mk (below_step (by repeat (first | (with_reducible first | exact HB.out | apply below_alloc | apply pw_below_drewN | apply below_drew1 | refine below_set ?_ GE1.out | refine below_set ?_ GE2.out) | exact HB.out)) hb); have n3_ := Aside0.mk (hbox); have n4_ := Aside0.mk ((by rw [hg]; exact (below_size (by repeat (first | (with_reducible first | exact HB.out | apply below_alloc | apply pw_below_drewN | apply below_drew1 | refine below_set ?_ GE1.out | refine below_set ?_ GE2.out) | exact HB.out))) : w.heap.size ≤ gb3)); have n5_ := Aside0.mk ((by rw [hg]; exact (below_size (by repeat (first | (with_reducible first | exact HB.out | apply below_alloc | apply pw_below_drewN | apply below_drew1 | refine below_set ?_ GE1.out | refine below_set ?_ GE2.out) | exact HB.out))) : w.heap.size ≤ gb3)); have n6_ := Aside0.mk ((by rw [hg]; exact Nat.ne_of_lt (blk_lt (g := gb1) (o := .cells #[.int .u32 a0_0, .int .u32 a0_1] 24 (0, 0)) (by (with_reducible repeat (first | refine blk_drewN ?_ _ | refine blk_drew ?_ | refine blk_alloc ?_ _)); exact BK1.out)) : gb1 ≠ gb3)); have n7_ := Aside0.mk ((by rw [hg]; exact Nat.ne_of_gt (blk_lt (g := gb1) (o := .cells #[.int .u32 a0_0, .int .u32 a0_1] 24 (0, 0)) (by (with_reducible repeat (first | refine blk_drewN ?_ _ | refine blk_drew ?_ | refine blk_alloc ?_ _)); exact BK1.out)) : gb3 ≠ gb1)); have n8_ := Aside0.mk ((by rw [hg]; exact Nat.ne_of_lt (blk_lt (g := gb2) (o := .cells #[.int .u32 a1_0, .int .u32 a1_1] 24 (0, 0)) (by (with_reducible repeat (first | refine blk_drewN ?_ _ | refine blk_drew ?_ | refine blk_alloc ?_ _)); exact BK2.out)) : gb2 ≠ gb3)); have n9_ := Aside0.mk ((by rw [hg]; exact Nat.ne_of_gt (blk_lt (g := gb2) (o := .cells #[.int .u32 a1_0, .int .u32 a1_1] 24 (0, 0)) (by (with_reducible repeat (first | refine blk_drewN ?_ _ | refine blk_drew ?_ | refine blk_alloc ?_ _)); exact BK2.out)) : gb3 ≠ gb2)); clear BK1; clear BK2; clear HB; have BK1 := n0_; have BK2 := n1_; have HB := n2_; have BK3 := n3_; have GW3 := n4_; have GE3 := n5_; have NB1_3 := n6_; have NB3_1 := n7_; have NB2_3 := n8_; have NB3_2 := n9_; clear n0_ n1_ n2_ n3_ n4_ n5_ n6_ n7_ n8_ n9_; clear hb hbox hg; have hnb21 := NB1_2.out; have hnc21 := NB2_1.out; have hnb22 := NB1_3.out; have hnc22 := NB3_1.out; have hcz23_0 : w20.cell? ⟨gb1, 0, none⟩ = some (.int .u32 a0_0) := (blk_cell BK1.out 0).trans rfl; have hcz23_1 : w20.cell? ⟨gb1, 1, none⟩ = some (.int .u32 a0_1) := (blk_cell BK1.out 1).trans rfl; have hfz23_0 := blk_frozen BK1.out 0; have hfz23_1 := blk_frozen BK1.out 1; have hnb24 := NB2_3.out; have hnc24 := NB3_2.out; have hcz25_0 : w20.cell? ⟨gb2, 0, none⟩ = some (.int .u32 a1_0) := (blk_cell BK2.out 0).trans rfl; have hcz25_1 : w20.cell? ⟨gb2, 1, none⟩ = some (.int .u32 a1_1) := (blk_cell BK2.out 1).trans rfl; have hfz25_0 := blk_frozen BK2.out 0; have hfz25_1 := blk_frozen BK2.out 1; have hcz26_0 : w20.cell? ⟨gb3, 0, none⟩ = some (.int .u32 0) := (blk_cell BK3.out 0).trans rfl; have hcz26_1 : w20.cell? ⟨gb3, 1, none⟩ = some (.int .u32 0) := (blk_cell BK3.out 1).trans rfl; have hfz26_0 := blk_frozen BK3.out 0; have hfz26_1 := blk_frozen BK3.out 1)); try go_wp2_with (first | ((with_reducible refine gate_dst (N := 2) rfl ?_); refine box_event ?hg (N := 2) ?hd (cs := #[.int .u32 a0_0, .int .u32 a0_1]) (t := 24) ?hr ?_; (case hd => rfl); (case hg => rfl); (case hr => first | (go_simp; done) | (go_simp; rfl)); intro gb1 hg w18 hbox hb; have n0_ := Aside0.mk (below_step (by repeat (first | (with_reducible first | exact HB.out | apply below_alloc | apply pw_below_drewN | apply below_drew1) | exact HB.out)) hb); have n1_ := Aside0.mk (hbox); have n2_ := Aside0.mk ((by rw [hg]; exact (below_size (by repeat (first | (with_reducible first | exact HB.out | apply below_alloc | apply pw_below_drewN | apply below_drew1) | exact HB.out))) : w.heap.size ≤ gb1)); have n3_ := Aside0.mk ((by rw [hg]; exact (below_size (by repeat (first | (with_reducible first | exact HB.out | apply below_alloc | apply pw_below_drewN | apply below_drew1) | exact HB.out))) : w.heap.size ≤ gb1)); clear HB; have HB := n0_; have BK1 := n1_; have GW1 := n2_; have GE1 := n3_; clear n0_ n1_ n2_ n3_; clear hb hbox hg) | ((with_reducible refine gate_dst (N := 3) rfl ?_); refine box_event ?hg (N := 3) ?hd (cs := #[.int .u32 a1_0, .int .u32 a1_1]) (t := 24) ?hr ?_; (case hd => rfl); (case hg => rfl); (case hr => first | (go_simp; done) | (go_simp; rfl)); intro gb2 hg w19 hbox hb; have n0_ := Aside0.mk (blk_below (g := gb1) (o := .cells #[.int .u32 a0_0, .int .u32 a0_1] 24 (0, 0)) (by (with_reducible repeat (first | refine blk_drewN ?_ _ | refine blk_drew ?_ | refine blk_alloc ?_ _)); exact BK1.out) hb); have n1_ := Aside0.mk (below_step (by repeat (first | (with_reducible first | exact HB.out | apply below_alloc | apply pw_below_drewN | apply below_drew1 | refine below_set ?_ GE1.out) | exact HB.out)) hb); have n2_ := Aside0.mk (hbox); have n3_ := Aside0.mk ((by rw [hg]; exact (below_size (by repeat (first | (with_reducible first | exact HB.out | apply below_alloc | apply pw_below_drewN | apply below_drew1 | refine below_set ?_ GE1.out) | exact HB.out))) : w.heap.size ≤ gb2)); have n4_ := Aside0.mk ((by rw [hg]; exact (below_size (by repeat (first | (with_reducible first | exact HB.out | apply below_alloc | apply pw_below_drewN | apply below_drew1 | refine below_set ?_ GE1.out) | exact HB.out))) : w.heap.size ≤ gb2)); have n5_ := Aside0.mk ((by rw [hg]; exact Nat.ne_of_lt (blk_lt (g := gb1) (o := .cells #[.int .u32 a0_0, .int .u32 a0_1] 24 (0, 0)) (by (with_reducible repeat (first | refine blk_drewN ?_ _ | refine blk_drew ?_ | refine blk_alloc ?_ _)); exact BK1.out)) : gb1 ≠ gb2)); have n6_ := Aside0.mk ((by rw [hg]; exact Nat.ne_of_gt (blk_lt (g := gb1) (o := .cells #[.int .u32 a0_0, .int .u32 a0_1] 24 (0, 0)) (by (with_reducible repeat (first | refine blk_drewN ?_ _ | refine blk_drew ?_ | refine blk_alloc ?_ _)); exact BK1.out)) : gb2 ≠ gb1)); clear BK1; clear HB; have BK1 := n0_; have HB := n1_; have BK2 := n2_; have GW2 := n3_; have GE2 := n4_; have NB1_2 := n5_; have NB2_1 := n6_; clear n0_ n1_ n2_ n3_ n4_ n5_ n6_; clear hb hbox hg) | ((with_reducible refine gate_dst (N := 4) rfl ?_); refine box_event ?hg (N := 4) ?hd (cs := #[.int .u32 0, .int .u32 0]) (t := 24) ?hr ?_; (case hd => rfl); (case hg => rfl); (case hr => first | (go_simp; done) | (go_simp; rfl)); intro gb3 hg w20 hbox hb; have n0_ := Aside0.mk (blk_below (g := gb1) (o := .cells #[.int .u32 a0_0, .int .u32 a0_1] 24 (0, 0)) (by (with_reducible repeat (first | refine blk_drewN ?_ _ | refine blk_drew ?_ | refine blk_alloc ?_ _)); exact BK1.out) hb); have n1_ := Aside0.mk (blk_below (g := gb2) (o := .cells #[.int .u32 a1_0, .int .u32 a1_1] 24 (0, 0)) (by (with_reducible repeat (first | refine blk_drewN ?_ _ | refine blk_drew ?_ | refine blk_alloc ?_ _)); exact BK2.out) hb); have n2_ := Aside0.mk (below_step (by repeat (first | (with_reducible first | exact HB.out | apply below_alloc | apply pw_below_drewN | apply below_drew1 | refine below_set ?_ GE1.out | refine below_set ?_ GE2.out) | exact HB.out)) hb); have n3_ := Aside0.mk (hbox); have n4_ := Aside0.mk ((by rw [hg]; exact (below_size (by repeat (first | (with_reducible first | exact HB.out | apply below_alloc | apply pw_below_drewN | apply below_drew1 | refine below_set ?_ GE1.out | refine below_set ?_ GE2.out) | exact HB.out))) : w.heap.size ≤ gb3)); have n5_ := Aside0.mk ((by rw [hg]; exact (below_size (by repeat (first | (with_reducible first | exact HB.out | apply below_alloc | apply pw_below_drewN | apply below_drew1 | refine below_set ?_ GE1.out | refine below_set ?_ GE2.out) | exact HB.out))) : w.heap.size ≤ gb3)); have n6_ := Aside0.mk ((by rw [hg]; exact Nat.ne_of_lt (blk_lt (g := gb1) (o := .cells #[.int .u32 a0_0, .int .u32 a0_1] 24 (0, 0)) (by (with_reducible repeat (first | refine blk_drewN ?_ _ | refine blk_drew ?_ | refine blk_alloc ?_ _)); exact BK1.out)) : gb1 ≠ gb3)); have n7_ := Aside0.mk ((by rw [hg]; exact Nat.ne_of_gt (blk_lt (g := gb1) (o := .cells #[.int .u32 a0_0, .int .u32 a0_1] 24 (0, 0)) (by (with_reducible repeat (first | refine blk_drewN ?_ _ | refine blk_drew ?_ | refine blk_alloc ?_ _)); exact BK1.out)) : gb3 ≠ gb1)); have n8_ := Aside0.mk ((by rw [hg]; exact Nat.ne_of_lt (blk_lt (g := gb2) (o := .cells #[.int .u32 a1_0, .int .u32 a1_1] 24 (0, 0)) (by (with_reducible repeat (first | refine blk_drewN ?_ _ | refine blk_drew ?_ | refine blk_alloc ?_ _)); exact BK2.out)) : gb2 ≠ gb3)); have n9_ := Aside0.mk ((by rw [hg]; exact Nat.ne_of_gt (blk_lt (g := gb2) (o := .cells #[.int .u32 a1_0, .int .u32 a1_1] 24 (0, 0)) (by (with_reducible repeat (first | refine blk_drewN ?_ _ | refine blk_drew ?_ | refine blk_alloc ?_ _)); exact BK2.out)) : gb3 ≠ gb2)); clear BK1; clear BK2; clear HB; have BK1 := n0_; have BK2 := n1_; have HB := n2_; have BK3 := n3_; have GW3 := n4_; have GE3 := n5_; have NB1_3 := n6_; have NB3_1 := n7_; have NB2_3 := n8_; have NB3_2 := n9_; clear n0_ n1_ n2_ n3_ n4_ n5_ n6_ n7_ n8_ n9_; clear hb hbox hg; have hnb21 := NB1_2.out; have hnc21 := NB2_1.out; have hnb22 := NB1_3.out; have hnc22 := NB3_1.out; have hcz23_0 : w20.cell? ⟨gb1, 0, none⟩ = some (.int .u32 a0_0) := (blk_cell BK1.out 0).trans rfl; have hcz23_1 : w20.cell? ⟨gb1, 1, none⟩ = some (.int .u32 a0_1) := (blk_cell BK1.out 1).trans rfl; have hfz23_0 := blk_frozen BK1.out 0; have hfz23_1 := blk_frozen BK1.out 1; have hnb24 := NB2_3.out; have hnc24 := NB3_2.out; have hcz25_0 : w20.cell? ⟨gb2, 0, none⟩ = some (.int .u32 a1_0) := (blk_cell BK2.out 0).trans rfl; have hcz25_1 : w20.cell? ⟨gb2, 1, none⟩ = some (.int .u32 a1_1) := (blk_cell BK2.out 1).trans rfl; have hfz25_0 := blk_frozen BK2.out 0; have hfz25_1 := blk_frozen BK2.out 1; have hcz26_0 : w20.cell? ⟨gb3, 0, none⟩ = some (.int .u32 0) := (blk_cell BK3.out 0).trans rfl; have hcz26_1 : w20.cell? ⟨gb3, 1, none⟩ = some (.int .u32 0) := (blk_cell BK3.out 1).trans rfl; have hfz26_0 := blk_frozen BK3.out 0; have hfz26_1 := blk_frozen BK3.out 1)))
   refine bodyPost_ret (results_ct rfl _ _ gb3 24 #[.int .u32 0, .int .u32 0] (0, 0) _ rfl (by (with_reducible repeat (first | refine blk_drewN ?_ _ | refine blk_drew ?_ | refine blk_alloc ?_ _)); refine blk_put (cs := #[.int .u32 0, .int .u32 0]) ?_ 1 _ rfl; (with_reducible repeat (first | refine blk_drewN ?_ _ | refine blk_drew ?_ | refine blk_alloc ?_ _)); refine blk_put (cs := #[.int .u32 0, .int .u32 0]) ?_ 0 _ rfl; (with_reducible repeat (first | refine blk_drewN ?_ _ | refine blk_drew ?_ | refine blk_alloc ?_ _)); exact BK3.out) Try.underlying24 rfl (by kernel_rfl)) rfl ?_
   exact ⟨by first | rfl | (simp [errW_none, errW_some] <;> rfl) | (simp only [← hji3, ← hji4, ← hji5, ← hji6]; first | rfl | (simp [errW_none, errW_some] <;> rfl)) | (simp [*, errW_none, errW_some] <;> rfl), by repeat (first | (with_reducible first | exact HB.out | apply below_alloc | apply pw_below_drewN | apply below_drew1 | refine below_set ?_ GE1.out | refine below_set ?_ GE2.out | refine below_set ?_ GE3.out) | exact HB.out)⟩
  ·
   rw [if_neg c17] at H
   have c17b0 : decide ((ji6) < (ji4)) = false := decide_eq_false c17
   clear c17
   simp only [Option.some.injEq, Prod.mk.injEq] at H
   obtain ⟨rfl, rfl, rfl⟩ := H
   go_enter Try.func10, Try.ntmps10
   go_wp2_with (first | ((with_reducible refine gate_dst (N := 2) rfl ?_); refine box_event ?hg (N := 2) ?hd (cs := #[.int .u32 a0_0, .int .u32 a0_1]) (t := 24) ?hr ?_; (case hd => rfl); (case hg => rfl); (case hr => first | (go_simp; done) | (go_simp; rfl)); intro gb1 hg w27 hbox hb; have n0_ := Aside0.mk (below_step (by repeat (first | (with_reducible first | exact HB.out | apply below_alloc | apply pw_below_drewN | apply below_drew1) | exact HB.out)) hb); have n1_ := Aside0.mk (hbox); have n2_ := Aside0.mk ((by rw [hg]; exact (below_size (by repeat (first | (with_reducible first | exact HB.out | apply below_alloc | apply pw_below_drewN | apply below_drew1) | exact HB.out))) : w.heap.size ≤ gb1)); have n3_ := Aside0.mk ((by rw [hg]; exact (below_size (by repeat (first | (with_reducible first | exact HB.out | apply below_alloc | apply pw_below_drewN | apply below_drew1) | exact HB.out))) : w.heap.size ≤ gb1)); clear HB; have HB := n0_; have BK1 := n1_; have GW1 := n2_; have GE1 := n3_; clear n0_ n1_ n2_ n3_; clear hb hbox hg) | ((with_reducible refine gate_dst (N := 3) rfl ?_); refine box_event ?hg (N := 3) ?hd (cs := #[.int .u32 a1_0, .int .u32 a1_1]) (t := 24) ?hr ?_; (case hd => rfl); (case hg => rfl); (case hr => first | (go_simp; done) | (go_simp; rfl)); intro gb2 hg w28 hbox hb; have n0_ := Aside0.mk (blk_below (g := gb1) (o := .cells #[.int .u32 a0_0, .int .u32 a0_1] 24 (0, 0)) (by (with_reducible repeat (first | refine blk_drewN ?_ _ | refine blk_drew ?_ | refine blk_alloc ?_ _)); exact BK1.out) hb); have n1_ := Aside0.mk (below_step (by repeat (first | (with_reducible first | exact HB.out | apply below_alloc | apply pw_below_drewN | apply below_drew1 | refine below_set ?_ GE1.out) | exact HB.out)) hb); have n2_ := Aside0.mk (hbox); have n3_ := Aside0.mk ((by rw [hg]; exact (below_size (by repeat (first | (with_reducible first | exact HB.out | apply below_alloc | apply pw_below_drewN | apply below_drew1 | refine below_set ?_ GE1.out) | exact HB.out))) : w.heap.size ≤ gb2)); have n4_ := Aside0.mk ((by rw [hg]; exact (below_size (by repeat (first | (with_reducible first | exact HB.out | apply below_alloc | apply pw_below_drewN | apply below_drew1 | refine below_set ?_ GE1.out) | exact HB.out))) : w.heap.size ≤ gb2)); have n5_ := Aside0.mk ((by rw [hg]; exact Nat.ne_of_lt (blk_lt (g := gb1) (o := .cells #[.int .u32 a0_0, .int .u32 a0_1] 24 (0, 0)) (by (with_reducible repeat (first | refine blk_drewN ?_ _ | refine blk_drew ?_ | refine blk_alloc ?_ _)); exact BK1.out)) : gb1 ≠ gb2)); have n6_ := Aside0.mk ((by rw [hg]; exact Nat.ne_of_gt (blk_lt (g := gb1) (o := .cells #[.int .u32 a0_0, .int .u32 a0_1] 24 (0, 0)) (by (with_reducible repeat (first | refine blk_drewN ?_ _ | refine blk_drew ?_ | refine blk_alloc ?_ _)); exact BK1.out)) : gb2 ≠ gb1)); clear BK1; clear HB; have BK1 := n0_; have HB := n1_; have BK2 := n2_; have GW2 := n3_; have GE2 := n4_; have NB1_2 := n5_; have NB2_1 := n6_; clear n0_ n1_ n2_ n3_ n4_ n5_ n6_; clear hb hbox hg) | ((with_reducible refine gate_dst (N := 4) rfl ?_); refine box_event ?hg (N := 4) ?hd (cs := #[.int .u32 0, .int .u32 0]) (t := 24) ?hr ?_; (case hd => rfl); (case hg => rfl); (case hr => first | (go_simp; done) | (go_simp; rfl)); intro gb3 hg w29 hbox hb; have n0_ := Aside0.mk (blk_below (g := gb1) (o := .cells #[.int .u32 a0_0, .int .u32 a0_1] 24 (0, 0)) (by (with_reducible repeat (first | refine blk_drewN ?_ _ | refine blk_drew ?_ | refine blk_alloc ?_ _)); exact BK1.out) hb); have n1_ := Aside0.mk (blk_below (g := gb2) (o := .cells #[.int .u32 a1_0, .int .u32 a1_1] 24 (0, 0)) (by (with_reducible repeat (first | refine blk_drewN ?_ _ | refine blk_drew ?_ | refine blk_alloc ?_ _)); exact BK2.out) hb); have n2_ := Aside0.mk (below_step (by repeat (first | (with_reducible first | exact HB.out | apply below_alloc | apply pw_below_drewN | apply below_drew1 | refine below_set ?_ GE1.out | refine below_set ?_ GE2.out) | exact HB.out)) hb); have n3_ := Aside0.mk (hbox); have n4_ := Aside0.mk ((by rw [hg]; exact (below_size (by repeat (first | (with_reducible first | exact HB.out | apply below_alloc | apply pw_below_drewN | apply below_drew1 | refine below_set ?_ GE1.out | refine below_set ?_ GE2.out) | exact HB.out))) : w.heap.size ≤ gb3)); have n5_ := Aside0.mk ((by rw [hg]; exact (below_size (by repeat (first | (with_reducible first | exact HB.out | apply below_alloc | apply pw_below_drewN | apply below_drew1 | refine below_set ?_ GE1.out | refine below_set ?_ GE2.out) | exact HB.out))) : w.heap.size ≤ gb3)); have n6_ := Aside0.mk ((by rw [hg]; exact Nat.ne_of_lt (blk_lt (g := gb1) (o := .cells #[.int .u32 a0_0, .int .u32 a0_1] 24 (0, 0)) (by (with_reducible repeat (first | refine blk_drewN ?_ _ | refine blk_drew ?_ | refine blk_alloc ?_ _)); exact BK1.out)) : gb1 ≠ gb3)); have n7_ := Aside0.mk ((by rw [hg]; exact Nat.ne_of_gt (blk_lt (g := gb1) (o := .cells #[.int .u32 a0_0, .int .u32 a0_1] 24 (0, 0)) (by (with_reducible repeat (first | refine blk_drewN ?_ _ | refine blk_drew ?_ | refine blk_alloc ?_ _)); exact BK1.out)) : gb3 ≠ gb1)); have n8_ := Aside0.mk ((by rw [hg]; exact Nat.ne_of_lt (blk_lt (g := gb2) (o := .cells #[.int .u32 a1_0, .int .u32 a1_1] 24 (0, 0)) (by (with_reducible repeat (first | refine blk_drewN ?_ _ | refine blk_drew ?_ | refine blk_alloc ?_ _)); exact BK2.out)) : gb2 ≠ gb3)); have n9_ := Aside0.mk ((by rw [hg]; exact Nat.ne_of_gt (blk_lt (g := gb2) (o := .cells #[.int .u32 a1_0, .int .u32 a1_1] 24 (0, 0)) (by (with_reducible repeat (first | refine blk_drewN ?_ _ | refine blk_drew ?_ | refine blk_alloc ?_ _)); exact BK2.out)) : gb3 ≠ gb2)); clear BK1; clear BK2; clear HB; have BK1 := n0_; have BK2 := n1_; have HB := n2_; have BK3 := n3_; have GW3 := n4_; have GE3 := n5_; have NB1_3 := n6_; have NB3_1 := n7_; have NB2_3 := n8_; have NB3_2 := n9_; clear n0_ n1_ n2_ n3_ n4_ n5_ n6_ n7_ n8_ n9_; clear hb hbox hg; have hnb30 := NB1_2.out; have hnc30 := NB2_1.out; have hnb31 := NB1_3.out; have hnc31 := NB3_1.out; have hcz32_0 : w29.cell? ⟨gb1, 0, none⟩ = some (.int .u32 a0_0) := (blk_cell BK1.out 0).trans rfl; have hcz32_1 : w29.cell? ⟨gb1, 1, none⟩ = some (.int .u32 a0_1) := (blk_cell BK1.out 1).trans rfl; have hfz32_0 := blk_frozen BK1.out 0; have hfz32_1 := blk_frozen BK1.out 1; have hnb33 := NB2_3.out; have hnc33 := NB3_2.out; have hcz34_0 : w29.cell? ⟨gb2, 0, none⟩ = some (.int .u32 a1_0) := (blk_cell BK2.out 0).trans rfl; have hcz34_1 : w29.cell? ⟨gb2, 1, none⟩ = some (.int .u32 a1_1) := (blk_cell BK2.out 1).trans rfl; have hfz34_0 := blk_frozen BK2.out 0; have hfz34_1 := blk_frozen BK2.out 1; have hcz35_0 : w29.cell? ⟨gb3, 0, none⟩ = some (.int .u32 0) := (blk_cell BK3.out 0).trans rfl; have hcz35_1 : w29.cell? ⟨gb3, 1, none⟩ = some (.int .u32 0) := (blk_cell BK3.out 1).trans rfl; have hfz35_0 := blk_frozen BK3.out 0; have hfz35_1 := blk_frozen BK3.out 1))
   repeat (go_quiet (first | ((with_reducible refine gate_dst (N := 2) rfl ?_); refine box_event ?hg (N := 2) ?hd (cs := #[.int .u32 a0_0, .int .u32 a0_1]) (t := 24) ?hr ?_; (case hd => rfl); (case hg => rfl); (case hr => first | (go_simp; done) | (go_simp; rfl)); intro gb1 hg w27 hbox hb; have n0_ := Aside0.mk (below_step (by repeat (first | (with_reducible first | exact HB.out | apply below_alloc | apply pw_below_drewN | apply below_drew1) | exact HB.out)) hb); have n1_ := Aside0.mk (hbox); have n2_ := Aside0.mk ((by rw [hg]; exact (below_size (by repeat (first | (with_reducible first | exact HB.out | apply below_alloc | apply pw_below_drewN | apply below_drew1) | exact HB.out))) : w.heap.size ≤ gb1)); have n3_ := Aside0.mk ((by rw [hg]; exact (below_size (by repeat (first | (with_reducible first | exact HB.out | apply below_alloc | apply pw_below_drewN | apply below_drew1) | exact HB.out))) : w.heap.size ≤ gb1)); clear HB; have HB := n0_; have BK1 := n1_; have GW1 := n2_; have GE1 := n3_; clear n0_ n1_ n2_ n3_; clear hb hbox hg) | ((with_reducible refine gate_dst (N := 3) rfl ?_); refine box_event ?hg (N := 3) ?hd (cs := #[.int .u32 a1_0, .int .u32 a1_1]) (t := 24) ?hr ?_; (case hd => rfl); (case hg => rfl); (case hr => first | (go_simp; done) | (go_simp; rfl)); intro gb2 hg w28 hbox hb; have n0_ := Aside0.mk (blk_below (g := gb1) (o := .cells #[.int .u32 a0_0, .int .u32 a0_1] 24 (0, 0)) (by (with_reducible repeat (first | refine blk_drewN ?_ _ | refine blk_drew ?_ | refine blk_alloc ?_ _)); exact BK1.out) hb); have n1_ := Aside0.mk (below_step (by repeat (first | (with_reducible first | exact HB.out | apply below_alloc | apply pw_below_drewN | apply below_drew1 | refine below_set ?_ GE1.out) | exact HB.out)) hb); have n2_ := Aside0.mk (hbox); have n3_ := Aside0.mk ((by rw [hg]; exact (below_size (by repeat (first | (with_reducible first | exact HB.out | apply below_alloc | apply pw_below_drewN | apply below_drew1 | refine below_set ?_ GE1.out) | exact HB.out))) : w.heap.size ≤ gb2)); have n4_ := Aside0.mk ((by rw [hg]; exact (below_size (by repeat (first | (with_reducible first | exact HB.out | apply below_alloc | apply pw_below_drewN | apply below_drew1 | refine below_set ?_ GE1.out) | exact HB.out))) : w.heap.size ≤ gb2)); have n5_ := Aside0.mk ((by rw [hg]; exact Nat.ne_of_lt (blk_lt (g := gb1) (o := .cells #[.int .u32 a0_0, .int .u32 a0_1] 24 (0, 0)) (by (with_reducible repeat (first | refine blk_drewN ?_ _ | refine blk_drew ?_ | refine blk_alloc ?_ _)); exact BK1.out)) : gb1 ≠ gb2)); have n6_ := Aside0.mk ((by rw [hg]; exact Nat.ne_of_gt (blk_lt (g := gb1) (o := .cells #[.int .u32 a0_0, .int .u32 a0_1] 24 (0, 0)) (by (with_reducible repeat (first | refine blk_drewN ?_ _ | refine blk_drew ?_ | refine blk_alloc ?_ _)); exact BK1.out)) : gb2 ≠ gb1)); clear BK1; clear HB; have BK1 := n0_; have HB := n1_; have BK2 := n2_; have GW2 := n3_; have GE2 := n4_; have NB1_2 := n5_; have NB2_1 := n6_; clear n0_ n1_ n2_ n3_ n4_ n5_ n6_; clear hb hbox hg) | ((with_reducible refine gate_dst (N := 4) rfl ?_); refine box_event ?hg (N := 4) ?hd (cs := #[.int .u32 0, .int .u32 0]) (t := 24) ?hr ?_; (case hd => rfl); (case hg => rfl); (case hr => first | (go_simp; done) | (go_simp; rfl)); intro gb3 hg w29 hbox hb; have n0_ := Aside0.mk (blk_below (g := gb1) (o := .cells #[.int .u32 a0_0, .int .u32 a0_1] 24 (0, 0)) (by (with_reducible repeat (first | refine blk_drewN ?_ _ | refine blk_drew ?_ | refine blk_alloc ?_ _)); exact BK1.out) hb); have n1_ := Aside0.mk (blk_below (g := gb2) (o := .cells #[.int .u32 a1_0, .int .u32 a1_1] 24 (0, 0)) (by (with_reducible repeat (first | refine blk_drewN ?_ _ | refine blk_drew ?_ | refine blk_alloc ?_ _)); exact BK2.out) hb); have n2_ := Aside0.mk (below_step (by repeat (first | (with_reducible first | exact HB.out | apply below_alloc | apply pw_below_drewN | apply below_drew1 | refine below_set ?_ GE1.out | refine below_set ?_ GE2.out) | exact HB.out)) hb); have n3_ := Aside0.mk (hbox); have n4_ := Aside0.mk ((by rw [hg]; exact (below_size (by repeat (first | (with_reducible first | exact HB.out | apply below_alloc | apply pw_below_drewN | apply below_drew1 | refine below_set ?_ GE1.out | refine below_set ?_ GE2.out) | exact HB.out))) : w.heap.size ≤ gb3)); have n5_ := Aside0.mk ((by rw [hg]; exact (below_size (by repeat (first | (with_reducible first | exact HB.out | apply below_alloc | apply pw_below_drewN | apply below_drew1 | refine below_set ?_ GE1.out | refine below_set ?_ GE2.out) | exact HB.out))) : w.heap.size ≤ gb3)); have n6_ := Aside0.mk ((by rw [hg]; exact Nat.ne_of_lt (blk_lt (g := gb1) (o := .cells #[.int .u32 a0_0, .int .u32 a0_1] 24 (0, 0)) (by (with_reducible repeat (first | refine blk_drewN ?_ _ | refine blk_drew ?_ | refine blk_alloc ?_ _)); exact BK1.out)) : gb1 ≠ gb3)); have n7_ := Aside0.mk ((by rw [hg]; exact Nat.ne_of_gt (blk_lt (g := gb1) (o := .cells #[.int .u32 a0_0, .int .u32 a0_1] 24 (0, 0)) (by (with_reducible repeat (first | refine blk_drewN ?_ _ | refine blk_drew ?_ | refine blk_alloc ?_ _)); exact BK1.out)) : gb3 ≠ gb1)); have n8_ := Aside0.mk ((by rw [hg]; exact Nat.ne_of_lt (blk_lt (g := gb2) (o := .cells #[.int .u32 a1_0, .int .u32 a1_1] 24 (0, 0)) (by (with_reducible repeat (first | refine blk_drewN ?_ _ | refine blk_drew ?_ | refine blk_alloc ?_ _)); exact BK2.out)) : gb2 ≠ gb3)); have n9_ := Aside0.mk ((by rw [hg]; exact Nat.ne_of_gt (blk_lt (g := gb2) (o := .cells #[.int .u32 a1_0, .int .u32 a1_1] 24 (0, 0)) (by (with_reducible repeat (first | refine blk_drewN ?_ _ | refine blk_drew ?_ | refine blk_alloc ?_ _)); exact BK2.out)) : gb3 ≠ gb2)); clear BK1; clear BK2; clear HB; have BK1 := n0_; have BK2 := n1_; have HB := n2_; have BK3 := n3_; have GW3 := n4_; have GE3 := n5_; have NB1_3 := n6_; have NB3_1 := n7_; have NB2_3 := n8_; have NB3_2 := n9_; clear n0_ n1_ n2_ n3_ n4_ n5_ n6_ n7_ n8_ n9_; clear hb hbox hg; have hnb30 := NB1_2.out; have hnc30 := NB2_1.out; have hnb31 := NB1_3.out; have hnc31 := NB3_1.out; have hcz32_0 : w29.cell? ⟨gb1, 0, none⟩ = some (.int .u32 a0_0) := (blk_cell BK1.out 0).trans rfl; have hcz32_1 : w29.cell? ⟨gb1, 1, none⟩ = some (.int .u32 a0_1) := (blk_cell BK1.out 1).trans rfl; have hfz32_0 := blk_frozen BK1.out 0; have hfz32_1 := blk_frozen BK1.out 1; have hnb33 := NB2_3.out; have hnc33 := NB3_2.out; have hcz34_0 : w29.cell? ⟨gb2, 0, none⟩ = some (.int .u32 a1_0) := (blk_cell BK2.out 0).trans rfl; have hcz34_1 : w29.cell? ⟨gb2, 1, none⟩ = some (.int .u32 a1_1) := (blk_cell BK2.out 1).trans rfl; have hfz34_0 := blk_frozen BK2.out 0; have hfz34_1 := blk_frozen BK2.out 1; have hcz35_0 : w29.cell? ⟨gb3, 0, none⟩ = some (.int .u32 0) := (blk_cell BK3.out 0).trans rfl; have hcz35_1 : w29.cell? ⟨gb3, 1, none⟩ = some (.int .u32 0) := (blk_cell BK3.out 1).trans rfl; have hfz35_0 := blk_frozen BK3.out 0; have hfz35_1 := blk_frozen BK3.out 1)); try go_wp2_with (first | ((with_reducible refine gate_dst (N := 2) rfl ?_); refine box_event ?hg (N := 2) ?hd (cs := #[.int .u32 a0_0, .int .u32 a0_1]) (t := 24) ?hr ?_; (case hd => rfl); (case hg => rfl); (case hr => first | (go_simp; done) | (go_simp; rfl)); intro gb1 hg w27 hbox hb; have n0_ := Aside0.mk (below_step (by repeat (first | (with_reducible first | exact HB.out | apply below_alloc | apply pw_below_drewN | apply below_drew1) | exact HB.out)) hb); have n1_ := Aside0.mk (hbox); have n2_ := Aside0.mk ((by rw [hg]; exact (below_size (by repeat (first | (with_reducible first | exact HB.out | apply below_alloc | apply pw_below_drewN | apply below_drew1) | exact HB.out))) : w.heap.size ≤ gb1)); have n3_ := Aside0.mk ((by rw [hg]; exact (below_size (by repeat (first | (with_reducible first | exact HB.out | apply below_alloc | apply pw_below_drewN | apply below_drew1) | exact HB.out))) : w.heap.size ≤ gb1)); clear HB; have HB := n0_; have BK1 := n1_; have GW1 := n2_; have GE1 := n3_; clear n0_ n1_ n2_ n3_; clear hb hbox hg) | ((with_reducible refine gate_dst (N := 3) rfl ?_); refine box_event ?hg (N := 3) ?hd (cs := #[.int .u32 a1_0, .int .u32 a1_1]) (t := 24) ?hr ?_; (case hd => rfl); (case hg => rfl); (case hr => first | (go_simp; done) | (go_simp; rfl)); intro gb2 hg w28 hbox hb; have n0_ := Aside0.mk (blk_below (g := gb1) (o := .cells #[.int .u32 a0_0, .int .u32 a0_1] 24 (0, 0)) (by (with_reducible repeat (first | refine blk_drewN ?_ _ | refine blk_drew ?_ | refine blk_alloc ?_ _)); exact BK1.out) hb); have n1_ := Aside0.mk (below_step (by repeat (first | (with_reducible first | exact HB.out | apply below_alloc | apply pw_below_drewN | apply below_drew1 | refine below_set ?_ GE1.out) | exact HB.out)) hb); have n2_ := Aside0.mk (hbox); have n3_ := Aside0.mk ((by rw [hg]; exact (below_size (by repeat (first | (with_reducible first | exact HB.out | apply below_alloc | apply pw_below_drewN | apply below_drew1 | refine below_set ?_ GE1.out) | exact HB.out))) : w.heap.size ≤ gb2)); have n4_ := Aside0.mk ((by rw [hg]; exact (below_size (by repeat (first | (with_reducible first | exact HB.out | apply below_alloc | apply pw_below_drewN | apply below_drew1 | refine below_set ?_ GE1.out) | exact HB.out))) : w.heap.size ≤ gb2)); have n5_ := Aside0.mk ((by rw [hg]; exact Nat.ne_of_lt (blk_lt (g := gb1) (o := .cells #[.int .u32 a0_0, .int .u32 a0_1] 24 (0, 0)) (by (with_reducible repeat (first | refine blk_drewN ?_ _ | refine blk_drew ?_ | refine blk_alloc ?_ _)); exact BK1.out)) : gb1 ≠ gb2)); have n6_ := Aside0.mk ((by rw [hg]; exact Nat.ne_of_gt (blk_lt (g := gb1) (o := .cells #[.int .u32 a0_0, .int .u32 a0_1] 24 (0, 0)) (by (with_reducible repeat (first | refine blk_drewN ?_ _ | refine blk_drew ?_ | refine blk_alloc ?_ _)); exact BK1.out)) : gb2 ≠ gb1)); clear BK1; clear HB; have BK1 := n0_; have HB := n1_; have BK2 := n2_; have GW2 := n3_; have GE2 := n4_; have NB1_2 := n5_; have NB2_1 := n6_; clear n0_ n1_ n2_ n3_ n4_ n5_ n6_; clear hb hbox hg) | ((with_reducible refine gate_dst (N := 4) rfl ?_); refine box_event ?hg (N := 4) ?hd (cs := #[.int .u32 0, .int .u32 0]) (t := 24) ?hr ?_; (case hd => rfl); (case hg => rfl); (case hr => first | (go_simp; done) | (go_simp; rfl)); intro gb3 hg w29 hbox hb; have n0_ := Aside0.mk (blk_below (g := gb1) (o := .cells #[.int .u32 a0_0, .int .u32 a0_1] 24 (0, 0)) (by (with_reducible repeat (first | refine blk_drewN ?_ _ | refine blk_drew ?_ | refine blk_alloc ?_ _)); exact BK1.out) hb); have n1_ := Aside0.mk (blk_below (g := gb2) (o := .cells #[.int .u32 a1_0, .int .u32 a1_1] 24 (0, 0)) (by (with_reducible repeat (first | refine blk_drewN ?_ _ | refine blk_drew ?_ | refine blk_alloc ?_ _)); exact BK2.out) hb); have n2_ := Aside0.mk (below_step (by repeat (first | (with_reducible first | exact HB.out | apply below_alloc | apply pw_below_drewN | apply below_drew1 | refine below_set ?_ GE1.out | refine below_set ?_ GE2.out) | exact HB.out)) hb); have n3_ := Aside0.mk (hbox); have n4_ := Aside0.mk ((by rw [hg]; exact (below_size (by repeat (first | (with_reducible first | exact HB.out | apply below_alloc | apply pw_below_drewN | apply below_drew1 | refine below_set ?_ GE1.out | refine below_set ?_ GE2.out) | exact HB.out))) : w.heap.size ≤ gb3)); have n5_ := Aside0.mk ((by rw [hg]; exact (below_size (by repeat (first | (with_reducible first | exact HB.out | apply below_alloc | apply pw_below_drewN | apply below_drew1 | refine below_set ?_ GE1.out | refine below_set ?_ GE2.out) | exact HB.out))) : w.heap.size ≤ gb3)); have n6_ := Aside0.mk ((by rw [hg]; exact Nat.ne_of_lt (blk_lt (g := gb1) (o := .cells #[.int .u32 a0_0, .int .u32 a0_1] 24 (0, 0)) (by (with_reducible repeat (first | refine blk_drewN ?_ _ | refine blk_drew ?_ | refine blk_alloc ?_ _)); exact BK1.out)) : gb1 ≠ gb3)); have n7_ := Aside0.mk ((by rw [hg]; exact Nat.ne_of_gt (blk_lt (g := gb1) (o := .cells #[.int .u32 a0_0, .int .u32 a0_1] 24 (0, 0)) (by (with_reducible repeat (first | refine blk_drewN ?_ _ | refine blk_drew ?_ | refine blk_alloc ?_ _)); exact BK1.out)) : gb3 ≠ gb1)); have n8_ := Aside0.mk ((by rw [hg]; exact Nat.ne_of_lt (blk_lt (g := gb2) (o := .cells #[.int .u32 a1_0, .int .u32 a1_1] 24 (0, 0)) (by (with_reducible repeat (first | refine blk_drewN ?_ _ | refine blk_drew ?_ | refine blk_alloc ?_ _)); exact BK2.out)) : gb2 ≠ gb3)); have n9_ := Aside0.mk ((by rw [hg]; exact Nat.ne_of_gt (blk_lt (g := gb2) (o := .cells #[.int .u32 a1_0, .int .u32 a1_1] 24 (0, 0)) (by (with_reducible repeat (first | refine blk_drewN ?_ _ | refine blk_drew ?_ | refine blk_alloc ?_ _)); exact BK2.out)) : gb3 ≠ gb2)); clear BK1; clear BK2; clear HB; have BK1 := n0_; have BK2 := n1_; have HB := n2_; have BK3 := n3_; have GW3 := n4_; have GE3 := n5_; have NB1_3 := n6_; have NB3_1 := n7_; have NB2_3 := n8_; have NB3_2 := n9_; clear n0_ n1_ n2_ n3_ n4_ n5_ n6_ n7_ n8_ n9_; clear hb hbox hg; have hnb30 := NB1_2.out; have hnc30 := NB2_1.out; have hnb31 := NB1_3.out; have hnc31 := NB3_1.out; have hcz32_0 : w29.cell? ⟨gb1, 0, none⟩ = some (.int .u32 a0_0) := (blk_cell BK1.out 0).trans rfl; have hcz32_1 : w29.cell? ⟨gb1, 1, none⟩ = some (.int .u32 a0_1) := (blk_cell BK1.out 1).trans rfl; have hfz32_0 := blk_frozen BK1.out 0; have hfz32_1 := blk_frozen BK1.out 1; have hnb33 := NB2_3.out; have hnc33 := NB3_2.out; have hcz34_0 : w29.cell? ⟨gb2, 0, none⟩ = some (.int .u32 a1_0) := (blk_cell BK2.out 0).trans rfl; have hcz34_1 : w29.cell? ⟨gb2, 1, none⟩ = some (.int .u32 a1_1) := (blk_cell BK2.out 1).trans rfl; have hfz34_0 := blk_frozen BK2.out 0; have hfz34_1 := blk_frozen BK2.out 1; have hcz35_0 : w29.cell? ⟨gb3, 0, none⟩ = some (.int .u32 0) := (blk_cell BK3.out 0).trans rfl; have hcz35_1 : w29.cell? ⟨gb3, 1, none⟩ = some (.int .u32 0) := (blk_cell BK3.out 1).trans rfl; have hfz35_0 := blk_frozen BK3.out 0; have hfz35_1 := blk_frozen BK3.out 1)))
   refine bodyPost_ret (results_ct rfl _ _ gb3 24 #[.int .u32 (((65536 * (ji3)) + (ji4)) % 4294967296), .int .u32 (((65536 * (ji5)) + (ji6)) % 4294967296)] (0, 0) _ rfl (by (with_reducible repeat (first | refine blk_drewN ?_ _ | refine blk_drew ?_ | refine blk_alloc ?_ _)); refine blk_put (cs := #[.int .u32 (((65536 * (ji3)) + (ji4)) % 4294967296), .int .u32 0]) ?_ 1 _ rfl; (with_reducible repeat (first | refine blk_drewN ?_ _ | refine blk_drew ?_ | refine blk_alloc ?_ _)); refine blk_put (cs := #[.int .u32 0, .int .u32 0]) ?_ 0 _ rfl; (with_reducible repeat (first | refine blk_drewN ?_ _ | refine blk_drew ?_ | refine blk_alloc ?_ _)); exact BK3.out) Try.underlying24 rfl (by kernel_rfl)) rfl ?_
   exact ⟨by first | rfl | (simp [errW_none, errW_some] <;> rfl) | (simp only [← hji3, ← hji4, ← hji5, ← hji6]; first | rfl | (simp [errW_none, errW_some] <;> rfl)) | (simp [*, errW_none, errW_some] <;> rfl), by repeat (first | (with_reducible first | exact HB.out | apply below_alloc | apply pw_below_drewN | apply below_drew1 | refine below_set ?_ GE1.out | refine below_set ?_ GE2.out | refine below_set ?_ GE3.out) | exact HB.out)⟩

end Go.Proofs.Ytdkbfcogmlghfaa.P

namespace Go.Proofs.Ytdkbfcogmlghfaa.P
open Go.RowKit Go.Proofs.YtdkbfcogmlghfaaW.PrintWords Go.Proofs.YtdkbfcogmlghfaaW.PrintMore
set_option linter.unusedVariables false
set_option linter.unusedSimpArgs false
theorem mx_nat (a b : Nat) : mx (a : Int) (b : Int) = ((max a b : Nat) : Int) := by unfold mx; split <;> omega
theorem mn_nat (a b : Nat) : mn (a : Int) (b : Int) = ((min a b : Nat) : Int) := by unfold mn; split <;> omega
theorem u32_nat {a : Int} (h : (Lit.int .u32 a).wf = true) : ∃ n : Nat, a = (n : Int) ∧ n < 4294967296 := by
  simp [Lit.wf, IntKind.min, IntKind.max, IntKind.signed, IntKind.bits] at h
  exact ⟨a.toNat, by omega, by omega⟩
theorem u32B_of (n : Nat) (h : n < 4294967296) : u32B (n : Int) = true := by unfold u32B; simp; omega
theorem in_f (lo hi c : Nat) (h1 : lo < 4294967296) (h2 : hi < 4294967296) (h3 : c < 4294967296) : plane_In.f (lo : Int) (hi : Int) (c : Int) = some (inB lo hi c) := by
  unfold plane_In.f
  rw [u32B_of lo h1, u32B_of hi h2, u32B_of c h3, if_pos (by rfl)]
  simp only [Int.toNat_natCast]
theorem meet_f (al ah bl bh : Nat) (h1 : al < 4294967296) (h2 : ah < 4294967296) (h3 : bl < 4294967296) (h4 : bh < 4294967296) : plane_Meet.f (al : Int) (ah : Int) (bl : Int) (bh : Int) = some (meetN al ah bl bh) := by
  unfold plane_Meet.f
  rw [u32B_of al h1, u32B_of ah h2, u32B_of bl h3, u32B_of bh h4, if_pos (by rfl)]
  simp only [Int.toNat_natCast]
theorem refMeet_f (al ah bl bh : Nat) (h1 : al < 4294967296) (h2 : ah < 4294967296) (h3 : bl < 4294967296) (h4 : bh < 4294967296) : q11z.f (al : Int) (ah : Int) (bl : Int) (bh : Int) = some (meetN al ah bl bh) := by
  unfold q11z.f meetN
  rw [quoN al h1, quoN ah h2, quoN bl h3, quoN bh h4, remN al, remN ah, remN bl, remN bh, mx_nat, mx_nat, mn_nat, mn_nat]
  have x1 : al / 65536 < 65536 := by omega
  have x2 : ah / 65536 < 65536 := by omega
  have x3 : bl / 65536 < 65536 := by omega
  have x4 : bh / 65536 < 65536 := by omega
  have y1 : al % 65536 < 65536 := by omega
  have y2 : ah % 65536 < 65536 := by omega
  have y3 : bl % 65536 < 65536 := by omega
  have y4 : bh % 65536 < 65536 := by omega
  generalize al / 65536 = a at x1 ⊢
  generalize ah / 65536 = b at x2 ⊢
  generalize bl / 65536 = c at x3 ⊢
  generalize bh / 65536 = d at x4 ⊢
  generalize al % 65536 = a' at y1 ⊢
  generalize ah % 65536 = b' at y2 ⊢
  generalize bl % 65536 = c' at y3 ⊢
  generalize bh % 65536 = d' at y4 ⊢
  obtain ⟨p, hp⟩ : ∃ p, p = max a c := ⟨_, rfl⟩
  obtain ⟨q, hq⟩ : ∃ q, q = min b d := ⟨_, rfl⟩
  obtain ⟨p', hp'⟩ : ∃ p, p = max a' c' := ⟨_, rfl⟩
  obtain ⟨q', hq'⟩ : ∃ q, q = min b' d' := ⟨_, rfl⟩
  rw [← hp, ← hq, ← hp', ← hq']
  have b1 : p < 65536 := by omega
  have b2 : q < 65536 := by omega
  have b3 : p' < 65536 := by omega
  have b4 : q' < 65536 := by omega
  by_cases c1 : p ≤ q
  · rw [if_neg (by omega), decide_eq_true c1, Bool.true_and]
    by_cases c2 : p' ≤ q'
    · rw [if_neg (by omega), decide_eq_true c2, if_pos rfl]
      congr 2
      · omega
      · congr 1
        omega
    · rw [if_pos (by omega), decide_eq_false c2, if_neg (by decide)]
  · rw [if_pos (by omega), decide_eq_false c1, Bool.false_and, if_neg (by decide)]
/-- The box that lies in both, with its ends as numbers. -/
theorem meetN_no (al ah bl bh : Nat) (h : (meetN al ah bl bh).2.2 = false) (c : Nat) : (inB al ah c && inB bl bh c) = false := by
  unfold meetN at h
  split at h
  · simp at h
  · rename_i hn
    rw [Bool.eq_false_iff]
    intro hc
    apply hn
    simp only [inB, withinN, Bool.and_eq_true, decide_eq_true_eq] at hc ⊢
    omega
theorem meetN_yes (al ah bl bh : Nat) (h1 : al < 4294967296) (h2 : ah < 4294967296) (h3 : bl < 4294967296) (h4 : bh < 4294967296) (h : (meetN al ah bl bh).2.2 = true) :
    ∃ m n : Nat, (meetN al ah bl bh).1 = (m : Int) ∧ (meetN al ah bl bh).2.1 = (n : Int) ∧ m < 4294967296 ∧ n < 4294967296 ∧ m / 65536 = max (al / 65536) (bl / 65536) ∧ m % 65536 = max (al % 65536) (bl % 65536) ∧ n / 65536 = min (ah / 65536) (bh / 65536) ∧ n % 65536 = min (ah % 65536) (bh % 65536) := by
  unfold meetN at h ⊢
  split at h
  · rename_i hn
    rw [if_pos hn]
    exact ⟨_, _, rfl, rfl, by omega, by omega, by omega, by omega, by omega, by omega⟩
  · simp at h
theorem inB_meet (al ah bl bh m n c : Nat) (e1 : m / 65536 = max (al / 65536) (bl / 65536)) (e2 : m % 65536 = max (al % 65536) (bl % 65536)) (e3 : n / 65536 = min (ah / 65536) (bh / 65536)) (e4 : n % 65536 = min (ah % 65536) (bh % 65536)) : inB m n c = (inB al ah c && inB bl bh c) := by
  rw [Bool.eq_iff_iff]
  simp only [inB, withinN, Bool.and_eq_true, decide_eq_true_eq, e1, e2, e3, e4]
  omega
end Go.Proofs.Ytdkbfcogmlghfaa.P

namespace Go.Proofs.Ytdkbfcogmlghfaa.P
open Go.Sort
set_option linter.unusedVariables false
/-! A sorted list with what is alike left out. -/
def cmpU (l : List Int) : List Int := Go.Lib.compactUpTo l.toArray l.length
theorem getB (l : List Int) (i : Nat) (h : i < l.length) : l.toArray[i]! = l[i] := by
  rw [getElem!_pos l.toArray i (by simpa using h)]
  simp
theorem cmpU_lt (l : List Int) (h : l.Pairwise (fun a b : Int => a ≤ b)) : (cmpU l).Pairwise (fun a b : Int => a < b) := by
  unfold cmpU Go.Lib.compactUpTo
  rw [List.pairwise_map, List.pairwise_filter, List.pairwise_iff_getElem]
  intro i j hi hj hij
  simp only [List.getElem_range]
  intro ki kj
  rw [List.length_range] at hi hj
  rw [List.pairwise_iff_getElem] at h
  simp only [Go.Lib.keeps, decide_eq_true_eq] at kj
  rcases kj with kj | kj
  · omega
  · have e : j - 1 + 1 = j := by omega
    rw [getB l i hi, getB l j hj]
    rw [getB l j hj, getB l (j - 1) (by omega)] at kj
    have h1 := h (j - 1) j (by omega) hj (by omega)
    rcases Nat.lt_or_ge i (j - 1) with h2 | h2
    · have h3 := h i (j - 1) hi (by omega) h2
      omega
    · have e2 : i = j - 1 := by omega
      subst e2
      omega
theorem cmpU_sub (l : List Int) (x : Int) (hx : x ∈ cmpU l) : x ∈ l := by
  unfold cmpU Go.Lib.compactUpTo at hx
  rw [List.mem_map] at hx
  obtain ⟨i, hi, rfl⟩ := hx
  have hi' := List.mem_range.1 (List.mem_filter.1 hi).1
  rw [getB l i hi']
  exact List.getElem_mem hi'
theorem cmpU_sup (l : List Int) : ∀ i (h : i < l.length), l[i] ∈ cmpU l := by
  intro i
  induction i with
  | zero =>
    intro h
    unfold cmpU Go.Lib.compactUpTo
    rw [List.mem_map]
    exact ⟨0, List.mem_filter.2 ⟨List.mem_range.2 h, by simp [Go.Lib.keeps]⟩, getB l 0 h⟩
  | succ i ih =>
    intro h
    by_cases e : l[i + 1] = l[i]
    · rw [e]; exact ih (by omega)
    · unfold cmpU Go.Lib.compactUpTo
      rw [List.mem_map]
      refine ⟨i + 1, List.mem_filter.2 ⟨List.mem_range.2 h, ?_⟩, getB l (i + 1) h⟩
      simp only [Go.Lib.keeps, decide_eq_true_eq]
      refine .inr ?_
      rw [getB l (i + 1) h, Nat.add_sub_cancel, getB l i (by omega)]
      exact e
theorem cmpU_mem (l : List Int) (x : Int) : x ∈ cmpU l ↔ x ∈ l := by
  constructor
  · exact cmpU_sub l x
  · intro h
    obtain ⟨i, hi, rfl⟩ := List.getElem_of_mem h
    exact cmpU_sup l i hi
theorem cmpU_le (l : List Int) : (cmpU l).length ≤ l.length := by
  unfold cmpU Go.Lib.compactUpTo
  rw [List.length_map]
  exact Nat.le_trans (List.length_filter_le _ _) (by simp)
theorem lt_unique : ∀ (l r : List Int), l.Pairwise (fun a b : Int => a < b) → r.Pairwise (fun a b : Int => a < b) → (∀ x, x ∈ l ↔ x ∈ r) → l = r
  | [], [], _, _, _ => rfl
  | [], y :: t, _, _, h => by have := (h y).2 (List.mem_cons_self ..); simp at this
  | x :: s, [], _, _, h => by have := (h x).1 (List.mem_cons_self ..); simp at this
  | x :: s, y :: t, h1, h2, h => by
    rw [List.pairwise_cons] at h1 h2
    have hxy : x = y := by
      rcases List.mem_cons.1 ((h x).1 (List.mem_cons_self ..)) with e | e
      · exact e
      · rcases List.mem_cons.1 ((h y).2 (List.mem_cons_self ..)) with e2 | e2
        · exact e2.symm
        · have a1 := h2.1 x e
          have a2 := h1.1 y e2
          omega
    subst hxy
    rw [lt_unique s t h1.2 h2.2]
    intro z
    constructor
    · intro hz
      rcases List.mem_cons.1 ((h z).1 (List.mem_cons_of_mem _ hz)) with e | e
      · have := h1.1 z hz; omega
      · exact e
    · intro hz
      rcases List.mem_cons.1 ((h z).2 (List.mem_cons_of_mem _ hz)) with e | e
      · have := h2.1 z hz; omega
      · exact e
/-- A list's numbers, each once, rising. -/
def setU (l : List Int) : List Int := cmpU (sortU l)
theorem setU_lt (l : List Int) : (setU l).Pairwise (fun a b : Int => a < b) := cmpU_lt _ (sortU_pair l)
theorem setU_mem (l : List Int) (x : Int) : x ∈ setU l ↔ x ∈ l := (cmpU_mem _ x).trans (sortU_mem l x)
theorem setU_le (l : List Int) : (setU l).length ≤ l.length := Nat.le_trans (cmpU_le _) (Nat.le_of_eq (sortU_len l))
theorem setU_self (l : List Int) (h : l.Pairwise (fun a b : Int => a < b)) : setU l = l := lt_unique _ _ (setU_lt l) h (setU_mem l)
theorem setU_idem (l : List Int) : setU (setU l) = setU l := setU_self _ (setU_lt l)
end Go.Proofs.Ytdkbfcogmlghfaa.P

namespace Go.Proofs.Ytdkbfcogmlghfaa.P
open Go.RowKit Go.Proofs.YtdkbfcogmlghfaaW.PrintWords Go.Proofs.YtdkbfcogmlghfaaW.PrintMore
set_option linter.unusedVariables false
set_option linter.unusedSimpArgs false
/-! What plane.Cells computes. -/
theorem wrC (i : Nat) (h : i < 9223372036854775807) : wrap64 ((i : Int) + 1) = ((i + 1 : Nat) : Int) := by unfold wrap64; omega
theorem rdC24 (l : List S24) (i : Nat) (h : i < l.length) : rd_T24 l (i : Int) = l[i] := by
  unfold rd_T24
  rw [Int.toNat_natCast, List.getD_eq_getElem?_getD, List.getElem?_eq_getElem h]
  rfl
def Boxes (l : List S24) : Prop := l.length ≤ 64 ∧ ∀ b ∈ l, ∃ lo hi : Nat, b.f0 = (lo : Int) ∧ b.f1 = (hi : Int) ∧ lo < 4294967296 ∧ hi < 4294967296
theorem boxes_of (l : List S24) (hl : l.length ≤ 64) (h : ∀ z ∈ l, good24 z) : Boxes l := ⟨hl, fun b hb => by
  obtain ⟨lo, e1, l1⟩ := u32_nat (h b hb).1
  obtain ⟨hi, e2, l2⟩ := u32_nat (h b hb).2
  exact ⟨lo, hi, e1, e2, l1, l2⟩⟩
theorem box_f (l : List S24) (hl : Boxes l) (b : S24) (hb : b ∈ l) (c : Int) (h0 : 0 ≤ c) (h1 : c < 4294967296) : plane_In.f b.f0 b.f1 c = some (inS c b) := by
  obtain ⟨lo, hi, e1, e2, l1, l2⟩ := hl.2 b hb
  obtain ⟨n, rfl⟩ : ∃ n : Nat, c = (n : Int) := ⟨c.toNat, by omega⟩
  unfold inS
  rw [e1, e2, in_f lo hi n l1 l2 (by omega)]
  rfl
/-! One kind. -/
def fI (c : Int) (b : S24) : Int := if inS c b = true then 1 else 0
theorem kind_l0 (l : List S24) (hl : Boxes l) (c : Int) (h0 : 0 ≤ c) (h1 : c < 4294967296) : ∀ (d i k : Nat), i + d = l.length → d + 1 ≤ k → q8z.l0 k c ((l.take i).map (fI c) ++ List.replicate d 0) l (l.length : Int) (i : Int) = some (strOfNums (l.map (fI c)))
  | 0, i, k, hi, hk => by
    obtain ⟨k, rfl⟩ : ∃ k', k = k' + 1 := ⟨k - 1, by omega⟩
    simp only [q8z.l0]
    rw [if_neg (by omega), List.take_of_length_le (by omega)]
    simp
  | d + 1, i, k, hi, hk => by
    obtain ⟨k, rfl⟩ : ∃ k', k = k' + 1 := ⟨k - 1, by omega⟩
    have hil : i < l.length := by omega
    have hll := hl.1
    have hin := box_f l hl l[i] (List.getElem_mem hil) c h0 h1
    have ih := kind_l0 l hl c h0 h1 d (i + 1) k (by omega) (by omega)
    have htk : l.take (i + 1) = l.take i ++ [l[i]] := by rw [List.take_append_getElem hil]
    rw [htk] at ih
    have hpl : ((l.take i).map (fI c)).length = i := by simp; omega
    simp only [q8z.l0]
    rw [if_pos (by omega), if_pos (by omega), if_pos (by omega), rdC24 l i hil, hin, Option.bind_some, wrC i (by omega)]
    cases hv : inS c l[i] with
    | true =>
      rw [if_pos rfl, if_pos (by simp; omega), Int.toNat_natCast]
      have hset : ((l.take i).map (fI c) ++ List.replicate (d + 1) 0).set i 1 = (l.take i ++ [l[i]]).map (fI c) ++ List.replicate d 0 := by
        rw [List.set_append_right _ _ (by omega), hpl, Nat.sub_self, List.replicate_succ, List.set_cons_zero, List.map_append]
        simp [fI, hv]
      rw [hset]
      exact ih
    | false =>
      rw [if_neg (by decide)]
      have heq : (l.take i).map (fI c) ++ List.replicate (d + 1) 0 = (l.take i ++ [l[i]]).map (fI c) ++ List.replicate d 0 := by
        rw [List.replicate_succ, List.map_append]
        simp [fI, hv]
      rw [heq]
      exact ih
theorem kind_f (l : List S24) (hl : Boxes l) (c : Int) (h0 : 0 ≤ c) (h1 : c < 4294967296) (k : Nat) (hk : 65 ≤ k) : q8z.f k l c = some (strOfNums (l.map (fI c))) := by
  have hll := hl.1
  unfold q8z.f
  rw [if_pos (by omega), if_pos (by omega)]
  have h := kind_l0 l hl c h0 h1 l.length 0 k (by omega) (by omega)
  simp only [List.take_zero, List.map_nil, List.nil_append] at h
  rw [Int.toNat_natCast]
  exact h
theorem kind_bytes (l : List S24) (c : Int) : (strOfNums (l.map (fI c))).data.toList = kb l c := by
  unfold strOfNums kb
  simp only [List.map_map]
  apply List.map_congr_left
  intro b _
  show UInt8.ofNat (fI c b).toNat = _
  unfold fI
  cases inS c b <;> rfl
theorem kind_size (l : List S24) (c : Int) : (strOfNums (l.map (fI c))).size = l.length := by
  have h := congrArg List.length (kind_bytes l c)
  unfold kb at h
  rw [List.length_map] at h
  exact h
/-! The rows of cells. -/
theorem cellsRow_f (l : List S24) (hl : Boxes l) (x : Int) (hx : 0 ≤ x ∧ x < 65536) (k : Nat) (hk : 65 ≤ k) : ∀ (ys : List Int) (s : List (List UInt8) × List Int), (∀ y ∈ ys, 0 ≤ y ∧ y < 65536) → s.2.length + ys.length < 35184372088832 →
    cellsRow k l x ys s.1 s.2 = some (runK l (ys.map (fun y => x * 65536 + y)) s)
  | [], s, _, _ => rfl
  | y :: ys, s, hy, hn => by
    have hy0 := hy y List.mem_cons_self
    have hc : (x * 65536 + y) % 4294967296 = x * 65536 + y := by omega
    have hll := hl.1
    simp only [List.length_cons] at hn
    simp only [cellsRow, List.map_cons, runK]
    rw [hc, kind_f l hl (x * 65536 + y) (by omega) (by omega) k hk, Option.bind_some, if_pos (by rw [kind_size]; omega), kind_bytes]
    unfold stepK
    by_cases hm : decide (kb l (x * 65536 + y) ∈ s.1) = true
    · rw [if_pos hm, if_pos hm]
      exact cellsRow_f l hl x hx k hk ys s (fun z hz => hy z (List.mem_cons_of_mem _ hz)) (by omega)
    · rw [if_neg hm, if_neg hm, if_pos (by omega)]
      exact cellsRow_f l hl x hx k hk ys (_, _) (fun z hz => hy z (List.mem_cons_of_mem _ hz)) (by simp; omega)
theorem stepK_len (l : List S24) (s : List (List UInt8) × List Int) (c : Int) : (stepK l s c).2.length ≤ s.2.length + 1 := by
  unfold stepK
  split <;> simp
theorem runK_len (l : List S24) : ∀ (cs : List Int) (s : List (List UInt8) × List Int), (runK l cs s).2.length ≤ s.2.length + cs.length
  | [], s => by simp [runK]
  | c :: cs, s => by
    have h1 := runK_len l cs (stepK l s c)
    have h2 := stepK_len l s c
    simp only [runK, List.length_cons]
    omega
theorem cellsAll_f (l : List S24) (hl : Boxes l) (ys : List Int) (hys : ys.length ≤ 1000000) (hy : ∀ y ∈ cmpU ys, 0 ≤ y ∧ y < 65536) (k : Nat) (hk : 65 ≤ k) : ∀ (xs : List Int) (s : List (List UInt8) × List Int), (∀ x ∈ xs, 0 ≤ x ∧ x < 65536) → s.2.length + xs.length * 1000000 < 35184372088832 →
    cellsAll k l ys xs s.1 s.2 = some (runK l (gridK xs (cmpU ys)) s).2
  | [], s, _, _ => rfl
  | x :: xs, s, hx, hn => by
    have hcl : (cmpU ys).length ≤ ys.length := cmpU_le ys
    simp only [List.length_cons, Nat.succ_mul] at hn
    have h1 : Clone_u32.f ys = some ys := if_pos (by omega)
    have h2 : Compact_u32.f ys = some (cmpU ys) := if_pos (by omega)
    have h3 := cellsRow_f l hl x (hx x List.mem_cons_self) k hk (cmpU ys) s hy (by omega)
    have h4 := runK_len l ((cmpU ys).map (fun y => x * 65536 + y)) s
    rw [List.length_map] at h4
    simp only [cellsAll, gridK]
    rw [h1, Option.bind_some, h2, Option.bind_some, h3, Option.bind_some, runK_append]
    exact cellsAll_f l hl ys hys hy k hk xs _ (fun z hz => hx z (List.mem_cons_of_mem _ hz)) (by omega)
end Go.Proofs.Ytdkbfcogmlghfaa.P

namespace Go.Proofs.Ytdkbfcogmlghfaa.P
open Go.RowKit Go.Proofs.YtdkbfcogmlghfaaW.PrintWords Go.Proofs.YtdkbfcogmlghfaaW.PrintMore
set_option linter.unusedVariables false
set_option linter.unusedSimpArgs false
/-! Where boxes begin and end, and that each community has its cell. -/
def cutX (b : S24) : List Int := (Int.tdiv b.f0 65536 % 4294967296) :: (if (Int.tdiv b.f1 65536 + 1) % 4294967296 < 65536 then [(Int.tdiv b.f1 65536 + 1) % 4294967296] else [])
def cutY (b : S24) : List Int := (Int.tmod b.f0 65536) :: (if (Int.tmod b.f1 65536 + 1) % 4294967296 < 65536 then [(Int.tmod b.f1 65536 + 1) % 4294967296] else [])
theorem cutX_len (b : S24) : (cutX b).length ≤ 2 := by unfold cutX; split <;> simp
theorem cutY_len (b : S24) : (cutY b).length ≤ 2 := by unfold cutY; split <;> simp
theorem half_l0 (l : List S24) (hl : Boxes l) : ∀ (d i k : Nat) (x4 x5 : List Int), i + d = l.length → d + 1 ≤ k → x4.length + 2 * d ≤ 1000 → x5.length + 2 * d ≤ 1000 →
    cells_half.l0 k x4 x5 l (l.length : Int) (i : Int) = some (sortU (x4 ++ (l.drop i).flatMap cutX), sortU (x5 ++ (l.drop i).flatMap cutY))
  | 0, i, k, x4, x5, hi, hk, h4, h5 => by
    obtain ⟨k, rfl⟩ : ∃ k', k = k' + 1 := ⟨k - 1, by omega⟩
    have s4 : Sort_u32.f k x4 = some (sortU x4) := if_pos (by omega)
    have s5 : Sort_u32.f k x5 = some (sortU x5) := if_pos (by omega)
    simp only [cells_half.l0]
    rw [if_neg (by omega), s4, Option.bind_some, s5, Option.bind_some, List.drop_eq_nil_of_le (by omega)]
    simp
  | d + 1, i, k, x4, x5, hi, hk, h4, h5 => by
    obtain ⟨k, rfl⟩ : ∃ k', k = k' + 1 := ⟨k - 1, by omega⟩
    have hil : i < l.length := by omega
    have hll := hl.1
    have hrd := rdC24 l i hil
    rw [List.drop_eq_getElem_cons hil]
    generalize l[i] = b at hrd
    have lx := cutX_len b
    have ly := cutY_len b
    have ih := half_l0 l hl d (i + 1) k (x4 ++ cutX b) (x5 ++ cutY b) (by omega) (by omega) (by simp; omega) (by simp; omega)
    rw [List.append_assoc, List.append_assoc] at ih
    simp only [List.flatMap_cons]
    rw [← ih]
    clear ih
    simp only [cells_half.l0, Option.bind_some]
    rw [if_pos (by omega), if_pos (by omega), if_pos (by omega), hrd, if_pos (by simp; omega), if_pos (by simp; omega), wrC i (by omega)]
    unfold cutX cutY
    by_cases cx : (Int.tdiv b.f1 65536 + 1) % 4294967296 < 65536
    · rw [if_pos cx, if_pos cx, if_pos (by simp; omega)]
      by_cases cy : (Int.tmod b.f1 65536 + 1) % 4294967296 < 65536
      · rw [if_pos cy, if_pos cy, if_pos (by simp; omega)]
        simp
      · rw [if_neg cy, if_neg cy]
        simp
    · rw [if_neg cx, if_neg cx]
      by_cases cy : (Int.tmod b.f1 65536 + 1) % 4294967296 < 65536
      · rw [if_pos cy, if_pos cy, if_pos (by simp; omega)]
        simp
      · rw [if_neg cy, if_neg cy]
def xsOf (l : List S24) : List Int := 0 :: l.flatMap cutX
def ysOf (l : List S24) : List Int := 0 :: l.flatMap cutY
def cellsOf (l : List S24) : List Int := (runK l (gridK (setU (xsOf l)) (setU (ysOf l))) ([], [])).2
theorem flat_len (f : S24 → List Int) (h : ∀ b, (f b).length ≤ 2) : ∀ l : List S24, (l.flatMap f).length ≤ 2 * l.length
  | [] => by simp
  | b :: l => by
    have := flat_len f h l
    have := h b
    simp only [List.flatMap_cons, List.length_append, List.length_cons]
    omega
/-- The parts of a box. -/
theorem mem_xs (l : List S24) (hl : Boxes l) (x : Int) (h : x ∈ setU (xsOf l)) : 0 ≤ x ∧ x < 65536 := by
  rw [setU_mem] at h
  rcases List.mem_cons.1 h with rfl | h
  · omega
  · obtain ⟨b, hb, h⟩ := List.mem_flatMap.1 h
    obtain ⟨lo, hi, e1, e2, l1, l2⟩ := hl.2 b hb
    unfold cutX at h
    rw [e1, e2, quoN lo l1] at h
    split at h
    · rename_i hc
      rcases List.mem_cons.1 h with rfl | h
      · omega
      · rw [List.mem_singleton.1 h]
        omega
    · rw [List.mem_singleton.1 h]
      omega
theorem mem_ys (l : List S24) (hl : Boxes l) (y : Int) (h : y ∈ setU (ysOf l)) : 0 ≤ y ∧ y < 65536 := by
  rw [setU_mem] at h
  rcases List.mem_cons.1 h with rfl | h
  · omega
  · obtain ⟨b, hb, h⟩ := List.mem_flatMap.1 h
    obtain ⟨lo, hi, e1, e2, l1, l2⟩ := hl.2 b hb
    unfold cutY at h
    rw [e1, e2, remN lo] at h
    split at h
    · rename_i hc
      rcases List.mem_cons.1 h with rfl | h
      · omega
      · rw [List.mem_singleton.1 h]
        omega
    · rw [List.mem_singleton.1 h]
      omega
theorem cells_f (l : List S24) (hl : Boxes l) (k : Nat) (hk : 66 ≤ k) : plane_Cells.f k l = some (cellsOf l, 0) := by
  have hll := hl.1
  have hh : cells_half.f k l = some (sortU (xsOf l), sortU (ysOf l)) := by
    have := half_l0 l hl l.length 0 k [0] [0] (by omega) (by omega) (by simp; omega) (by simp; omega)
    rw [List.drop_zero] at this
    exact this
  have fx := flat_len cutX cutX_len l
  have fy := flat_len cutY cutY_len l
  have lx : (xsOf l).length ≤ 200 := by unfold xsOf; simp only [List.length_cons]; omega
  have ly : (ysOf l).length ≤ 200 := by unfold ysOf; simp only [List.length_cons]; omega
  have hcx : Compact_u32.f (sortU (xsOf l)) = some (setU (xsOf l)) := if_pos (by rw [sortU_len]; omega)
  have hsl := setU_le (xsOf l)
  have hall := cellsAll_f l hl (sortU (ysOf l)) (by rw [sortU_len]; omega) (fun y hy => mem_ys l hl y hy) k (by omega) (setU (xsOf l)) ([], []) (fun x hx => mem_xs l hl x hx) (by simp; omega)
  unfold plane_Cells.f
  rw [if_neg (by omega), hh, Option.bind_some]
  unfold cellsTail
  rw [hcx, Option.bind_some, hall, Option.bind_some]
  rfl
/-- The greatest of a list that isn't above n. -/
theorem greatest (L : List Int) (n : Int) (h0 : ∃ m ∈ L, m ≤ n) : ∃ m ∈ L, m ≤ n ∧ ∀ z ∈ L, z ≤ n → z ≤ m := by
  induction L with
  | nil => obtain ⟨m, hm, _⟩ := h0; simp at hm
  | cons a L ih =>
    by_cases hL : ∃ m ∈ L, m ≤ n
    · obtain ⟨m, hm, h1, h2⟩ := ih hL
      by_cases ha : a ≤ n ∧ m < a
      · exact ⟨a, List.mem_cons_self, ha.1, fun z hz hzn => by
          rcases List.mem_cons.1 hz with rfl | hz
          · exact Int.le_refl _
          · have := h2 z hz hzn; omega⟩
      · exact ⟨m, List.mem_cons_of_mem _ hm, h1, fun z hz hzn => by
          rcases List.mem_cons.1 hz with rfl | hz
          · omega
          · exact h2 z hz hzn⟩
    · obtain ⟨m, hm, h1⟩ := h0
      rcases List.mem_cons.1 hm with rfl | hm
      · exact ⟨m, List.mem_cons_self, h1, fun z hz hzn => by
          rcases List.mem_cons.1 hz with rfl | hz
          · exact Int.le_refl _
          · exact absurd ⟨z, hz, hzn⟩ hL⟩
      · exact absurd ⟨m, hm, h1⟩ hL
theorem cell_of (l : List S24) (hl : Boxes l) (c : Nat) (hc : c < 4294967296) : ∃ d ∈ gridK (setU (xsOf l)) (setU (ysOf l)), d ≤ (c : Int) ∧ kb l d = kb l (c : Int) := by
  have zx : (0 : Int) ∈ setU (xsOf l) := (setU_mem _ _).2 List.mem_cons_self
  have zy : (0 : Int) ∈ setU (ysOf l) := (setU_mem _ _).2 List.mem_cons_self
  obtain ⟨x, hx, x1, x2⟩ := greatest (setU (xsOf l)) ((c / 65536 : Nat) : Int) ⟨0, zx, by omega⟩
  obtain ⟨y, hy, y1, y2⟩ := greatest (setU (ysOf l)) ((c % 65536 : Nat) : Int) ⟨0, zy, by omega⟩
  have rx := mem_xs l hl x hx
  have ry := mem_ys l hl y hy
  refine ⟨x * 65536 + y, (mem_gridK _ _ _).2 ⟨x, hx, y, hy, rfl⟩, by omega, ?_⟩
  rw [kb_iff]
  intro b hb
  obtain ⟨lo, hi, e1, e2, l1, l2⟩ := hl.2 b hb
  have mx0 : ((lo / 65536 : Nat) : Int) ∈ setU (xsOf l) := (setU_mem _ _).2 (List.mem_cons_of_mem _ (List.mem_flatMap.2 ⟨b, hb, by unfold cutX; rw [e1, quoN lo l1]; exact List.mem_cons_self⟩))
  have my0 : ((lo % 65536 : Nat) : Int) ∈ setU (ysOf l) := (setU_mem _ _).2 (List.mem_cons_of_mem _ (List.mem_flatMap.2 ⟨b, hb, by unfold cutY; rw [e1, remN lo]; exact List.mem_cons_self⟩))
  have mx1 : hi / 65536 + 1 < 65536 → ((hi / 65536 + 1 : Nat) : Int) ∈ setU (xsOf l) := fun h => (setU_mem _ _).2 (List.mem_cons_of_mem _ (List.mem_flatMap.2 ⟨b, hb, by
    have e : (Int.tdiv b.f1 65536 + 1) % 4294967296 = ((hi / 65536 + 1 : Nat) : Int) := by
      rw [e2, Int.tdiv_eq_ediv_of_nonneg (by omega)]
      omega
    unfold cutX
    rw [e, if_pos (by omega)]
    simp⟩))
  have my1 : hi % 65536 + 1 < 65536 → ((hi % 65536 + 1 : Nat) : Int) ∈ setU (ysOf l) := fun h => (setU_mem _ _).2 (List.mem_cons_of_mem _ (List.mem_flatMap.2 ⟨b, hb, by
    have e : (Int.tmod b.f1 65536 + 1) % 4294967296 = ((hi % 65536 + 1 : Nat) : Int) := by
      rw [e2, remN hi]
      omega
    unfold cutY
    rw [e, if_pos (by omega)]
    simp⟩))
  have qx0 := x2 _ mx0
  have qy0 := y2 _ my0
  have qx1 : hi / 65536 + 1 < 65536 → ((hi / 65536 + 1 : Nat) : Int) ≤ ((c / 65536 : Nat) : Int) → ((hi / 65536 + 1 : Nat) : Int) ≤ x := fun h => x2 _ (mx1 h)
  have qy1 : hi % 65536 + 1 < 65536 → ((hi % 65536 + 1 : Nat) : Int) ≤ ((c % 65536 : Nat) : Int) → ((hi % 65536 + 1 : Nat) : Int) ≤ y := fun h => y2 _ (my1 h)
  clear x2 y2 mx0 my0 mx1 my1 hx hy zx zy
  obtain ⟨X, rfl⟩ : ∃ X : Nat, x = (X : Int) := ⟨x.toNat, by omega⟩
  obtain ⟨Y, rfl⟩ : ∃ Y : Nat, y = (Y : Int) := ⟨y.toNat, by omega⟩
  have ed : ((X : Int) * 65536 + (Y : Int)).toNat = X * 65536 + Y := by omega
  unfold inS inB withinN
  rw [ed, e1, e2]
  simp only [Int.toNat_natCast]
  have d1 : (X * 65536 + Y) / 65536 = X := by omega
  have d2 : (X * 65536 + Y) % 65536 = Y := by omega
  rw [d1, d2, Bool.eq_iff_iff]
  simp only [Bool.and_eq_true, decide_eq_true_eq]
  have b1 : c / 65536 < 65536 := by omega
  have b2 : c % 65536 < 65536 := by omega
  generalize c / 65536 = cx at *
  generalize c % 65536 = cy at *
  generalize lo / 65536 = lx at *
  generalize lo % 65536 = ly at *
  have b3 : hi / 65536 < 65536 := by omega
  have b4 : hi % 65536 < 65536 := by omega
  generalize hi / 65536 = hx at *
  generalize hi % 65536 = hy at *
  constructor
  · rintro ⟨g1, g2, g3, g4⟩
    refine ⟨by omega, by omega, ?_, ?_⟩
    · apply Classical.byContradiction; intro hn; have := qx1 (by omega) (by omega); omega
    · apply Classical.byContradiction; intro hn; have := qy1 (by omega) (by omega); omega
  · rintro ⟨g1, g2, g3, g4⟩
    refine ⟨?_, ?_, by omega, by omega⟩
    · have := qx0 (by omega); omega
    · have := qy0 (by omega); omega
theorem cellsOf_spec (l : List S24) (hl : Boxes l) : (cellsOf l).Pairwise (fun a b : Int => a < b) ∧ (cellsOf l).Pairwise (fun a b : Int => kb l a ≠ kb l b) ∧ (∀ d ∈ cellsOf l, 0 ≤ d ∧ d < 4294967296) ∧ (∀ c : Nat, c < 4294967296 → ∃ d ∈ cellsOf l, kb l d = kb l (c : Int) ∧ d ≤ (c : Int)) ∧ (cellsOf l).length ≤ 1000000 := by
  have hll := hl.1
  have hg := gridK_rise (setU (ysOf l)) (setU_lt _) (fun y hy => mem_ys l hl y hy) (setU (xsOf l)) (setU_lt _)
  obtain ⟨q1, q2, q3, q4, q5⟩ := runK_spec l (gridK (setU (xsOf l)) (setU (ysOf l))) ([], []) (invK_nil l) hg (by simp)
  refine ⟨q1.rise, q1.one, fun d hd => ?_, fun c hc => ?_, ?_⟩
  · rcases q4 d hd with h | h
    · simp at h
    · obtain ⟨x, hx, y, hy, rfl⟩ := (mem_gridK _ _ _).1 h
      have := mem_xs l hl x hx
      have := mem_ys l hl y hy
      omega
  · obtain ⟨d, hd, h1, h2⟩ := cell_of l hl c hc
    obtain ⟨d', hd', h3, h4⟩ := q3 d hd
    exact ⟨d', hd', h3.trans h2, Int.le_trans h4 h1⟩
  · have fx := flat_len cutX cutX_len l
    have fy := flat_len cutY cutY_len l
    have lx := setU_le (xsOf l)
    have ly := setU_le (ysOf l)
    unfold xsOf at lx
    unfold ysOf at ly
    simp only [List.length_cons] at lx ly
    have gl : ∀ (xs ys : List Int), (gridK xs ys).length = xs.length * ys.length := by
      intro xs ys
      induction xs with
      | nil => simp [gridK]
      | cons x xs ih => simp only [gridK, List.length_append, List.length_map, ih, List.length_cons, Nat.succ_mul]; omega
    rw [gl] at q5
    have hm : (setU (xsOf l)).length * (setU (ysOf l)).length ≤ 200 * 200 := Nat.mul_le_mul (by unfold xsOf; omega) (by unfold ysOf; omega)
    simp only [List.length_nil] at q5
    unfold cellsOf
    omega
end Go.Proofs.Ytdkbfcogmlghfaa.P

namespace Go.Proofs.Ytdkbfcogmlghfaa.P
open Go.RowKit Go.Proofs.YtdkbfcogmlghfaaW.PrintWords Go.Proofs.YtdkbfcogmlghfaaW.PrintMore
set_option linter.unusedVariables false
set_option linter.unusedSimpArgs false
/-! The document's list of numbers that rise, with one more. -/
theorem wr (i : Int) (h0 : -9223372036854775808 ≤ i) (h1 : i ≤ 9223372036854775807) : wrap64 i = i := by unfold wrap64; omega
theorem wr1 (i : Nat) (h : i < 1000000000) : wrap64 ((i : Int) + 1) = ((i + 1 : Nat) : Int) := by rw [wr _ (by omega) (by omega)]; omega
theorem rdI (l : List Int) (i : Nat) (h : i < l.length) : rd l (i : Int) = l[i] := by
  unfold rd
  rw [Int.toNat_natCast, List.getD_eq_getElem?_getD, List.getElem?_eq_getElem h]
  rfl
def Rising (l : List Int) : Prop := l.Pairwise (· < ·)
def ins (n : Int) (l : List Int) : List Int :=
  match l.dropWhile (fun a => decide (a < n)) with
  | [] => l ++ [n]
  | a :: r => if a = n then l else l.takeWhile (fun a => decide (a < n)) ++ n :: (a :: r)
theorem ins_split (n : Int) : ∀ l : List Int, l = l.takeWhile (fun a => decide (a < n)) ++ l.dropWhile (fun a => decide (a < n)) := fun l => List.takeWhile_append_dropWhile.symm
theorem tw_lt (n : Int) (l : List Int) : ∀ x ∈ l.takeWhile (fun a => decide (a < n)), x < n := by
  induction l with
  | nil => intro x hx; simp at hx
  | cons a r ih =>
    intro x hx
    rw [List.takeWhile_cons] at hx
    split at hx
    · rename_i h
      rcases List.mem_cons.1 hx with rfl | hx
      · simpa using h
      · exact ih x hx
    · simp at hx
theorem dw_head (n : Int) (l : List Int) (a : Int) (r : List Int) (h : l.dropWhile (fun a => decide (a < n)) = a :: r) : n ≤ a := by
  induction l with
  | nil => simp at h
  | cons b t ih =>
    rw [List.dropWhile_cons] at h
    split at h
    · exact ih h
    · rename_i hb
      obtain ⟨rfl, rfl⟩ := List.cons.inj h
      have : ¬ b < n := by simpa using hb
      omega
theorem mem_ins (n : Int) (l : List Int) (x : Int) : x ∈ ins n l ↔ x = n ∨ x ∈ l := by
  unfold ins
  split
  · simp [or_comm]
  · rename_i a r h
    have hs := ins_split n l
    rw [h] at hs
    split
    · rename_i ha
      subst ha
      constructor
      · exact .inr
      · rintro (rfl | hx)
        · rw [hs]; simp
        · exact hx
    · generalize l.takeWhile (fun a => decide (a < n)) = p at hs
      subst hs
      simp only [List.mem_append, List.mem_cons]
      constructor
      · rintro (h1 | h1 | h1 | h1) <;> simp [h1]
      · rintro (h1 | h1 | h1 | h1) <;> simp [h1]
theorem rising_ins (n : Int) (l : List Int) (hl : Rising l) : Rising (ins n l) := by
  unfold ins
  have hs := ins_split n l
  have ht := tw_lt n l
  split
  · rename_i h
    rw [h, List.append_nil] at hs
    unfold Rising
    rw [List.pairwise_append]
    refine ⟨hl, List.pairwise_singleton _ _, fun a ha b hb => ?_⟩
    rw [List.mem_singleton.1 hb]
    exact ht a (hs ▸ ha)
  · rename_i a r h
    have ha := dw_head n l a r h
    rw [h] at hs
    split
    · exact hl
    · rename_i hne
      generalize l.takeWhile (fun a => decide (a < n)) = p at hs ht
      subst hs
      unfold Rising at hl ⊢
      rw [List.pairwise_append] at hl ⊢
      obtain ⟨h1, h2, h3⟩ := hl
      refine ⟨h1, ?_, fun x hx y hy => ?_⟩
      · rw [List.pairwise_cons]
        refine ⟨fun y hy => ?_, h2⟩
        rw [List.pairwise_cons] at h2
        rcases List.mem_cons.1 hy with rfl | hy
        · omega
        · have := h2.1 y hy; omega
      · rcases List.mem_cons.1 hy with rfl | hy
        · exact ht x hx
        · exact h3 x hx y hy
theorem length_ins (n : Int) (l : List Int) : (ins n l).length ≤ l.length + 1 := by
  unfold ins
  split
  · simp
  · rename_i a r h
    have hs := congrArg List.length (ins_split n l)
    rw [h] at hs
    split
    · omega
    · simp only [List.length_append, List.length_cons] at hs ⊢
      omega

theorem wr2 (i : Nat) (h : i < 1000000000) (h0 : 0 < i) : wrap64 ((i : Int) - 1) = ((i - 1 : Nat) : Int) := by rw [wr _ (by omega) (by omega)]; omega
theorem with_l1 (n : Int) (p : List Int) : ∀ (q s : List Int) (z : Int), p.length + q.length + s.length ≤ 1000000 →
    Ev (fun k => q1z.l1 k (p ++ q ++ [z] ++ s) n (p.length : Int) ((p.length + q.length : Nat) : Int)) (p ++ n :: (q ++ s)) := by
  intro q
  induction h : q.length generalizing q with
  | zero =>
    intro s z hl
    have hq : q = [] := List.length_eq_zero_iff.1 h
    subst hq
    refine Ev.step (f := fun _ => some (p ++ n :: ([] ++ s))) (fun k => ?_) (Ev.now _)
    simp only [q1z.l1]
    rw [if_neg (by omega), if_pos (by omega), if_pos (by simp; omega), Int.toNat_natCast]
    simp
  | succ m ih =>
    intro s z hl
    rcases List.eq_nil_or_concat q with rfl | ⟨q', y, rfl⟩
    · simp at h
    · rw [List.concat_eq_append] at *
      have hq' : q'.length = m := by simpa using h
      have e1 := ih q' hq' (y :: s) y (by simp only [List.length_cons]; omega)
      refine Ev.step (fun k => ?_) (r := p ++ n :: (q' ++ [y] ++ s)) (by
        have : p ++ n :: (q' ++ y :: s) = p ++ n :: (q' ++ [y] ++ s) := by simp
        rw [← this]
        exact e1)
      simp only [q1z.l1]
      have hw : wrap64 (((p.length + (m + 1) : Nat) : Int) - 1) = ((p.length + m : Nat) : Int) := by rw [wr _ (by omega) (by omega)]; omega
      have hr : rd (p ++ (q' ++ [y]) ++ [z] ++ s) ((p.length + m : Nat) : Int) = y := by
        rw [rdI _ _ (by simp; omega)]
        simp [List.getElem_append, hq']
      rw [if_pos (by omega), hw, if_pos (by omega), if_pos (by simp; omega), if_pos (by omega), if_pos (by simp; omega), hr, Int.toNat_natCast]
      congr 1
      have : p ++ (q' ++ [y]) ++ [z] ++ s = (p ++ q' ++ [y]) ++ (z :: s) := by simp
      rw [this, List.set_append_right _ _ (by simp; omega)]
      have : p.length + (m + 1) - (p ++ q' ++ [y]).length = 0 := by simp; omega
      rw [this]
      simp
theorem with_l0 (l : List Int) (n : Int) (hl : l.length ≤ 900000) (r : List Int) : ∀ (q p : List Int), l = p ++ q → (∀ a ∈ p, a < n) →
    Ev (fun k => q1z.j1 k l n (((p ++ q.takeWhile (fun a => decide (a < n))).length : Nat) : Int)) r → Ev (fun k => q1z.l0 k l n (p.length : Int)) r
  | [], p, hp, _, h => by
    rw [List.append_nil] at hp
    subst hp
    refine Ev.step (fun k => ?_) h
    simp only [q1z.l0]
    rw [if_neg (by omega), List.takeWhile_nil, List.append_nil]
  | a :: q, p, hp, hlt, h => by
    have hpl : p.length < l.length := by rw [hp]; simp
    have hr : rd l (p.length : Int) = a := by
      rw [rdI l _ hpl]
      simp [hp]
    by_cases ha : a < n
    · rw [List.takeWhile_cons_of_pos (by simpa using ha)] at h
      refine Ev.step (fun k => ?_) (with_l0 l n hl r q (p ++ [a]) (by rw [hp]; simp) (fun x hx => by
        rcases List.mem_append.1 hx with hx | hx
        · exact hlt x hx
        · rw [List.mem_singleton.1 hx]; exact ha) (by rw [List.append_assoc, List.singleton_append]; exact h))
      simp only [q1z.l0]
      rw [if_pos (by omega), if_pos (by omega), hr, if_pos ha, wr1 _ (by omega), List.length_append, List.length_singleton]
    · rw [List.takeWhile_cons_of_neg (by simpa using ha), List.append_nil] at h
      refine Ev.step (fun k => ?_) h
      simp only [q1z.l0]
      rw [if_pos (by omega), if_pos (by omega), hr, if_neg ha]
theorem with_ev (l : List Int) (n : Int) (hl : l.length ≤ 900000) : Ev (fun k => q1z.f k l n) (ins n l) := by
  refine Ev.congr (fun k => rfl) (with_l0 l n hl (ins n l) l [] rfl (fun a h => (List.not_mem_nil h).elim) ?_)
  rw [List.nil_append]
  have hs := ins_split n l
  unfold ins
  cases hd : l.dropWhile (fun a => decide (a < n)) with
  | nil =>
    rw [hd, List.append_nil] at hs
    simp only
    rw [← hs]
    refine Ev.step (fun k => ?_) (Ev.step (f := fun k => q1z.l1 k (l ++ [0]) n (l.length : Int) (l.length : Int)) (g := fun k => q1z.j2 k l n (l.length : Int) false) (fun k => ?_) ?_)
    · simp only [q1z.j1]
      rw [if_neg (by omega)]
    · simp only [q1z.j2]
      rw [if_neg (by simp), if_pos (by omega), Option.bind_some, wr _ (by simp only [List.length_append, List.length_singleton]; omega) (by simp only [List.length_append, List.length_singleton]; omega)]
      congr 1
      simp
    · have := with_l1 n l [] [] 0 (by simp; omega)
      simpa using this
  | cons a r =>
    rw [hd] at hs
    have hal : (l.takeWhile (fun a => decide (a < n))).length < l.length := by
      have := congrArg List.length hs
      simp only [List.length_append, List.length_cons] at this
      omega
    generalize hp : l.takeWhile (fun a => decide (a < n)) = p at hs hal ⊢
    have hr : rd l (p.length : Int) = a := by
      rw [rdI l _ hal]
      simp [hs]
    simp only
    by_cases ha : a = n
    · rw [if_pos ha]
      refine Ev.step (fun k => ?_) (Ev.step (f := fun _ => some l) (g := fun k => q1z.j2 k l n (p.length : Int) true) (fun k => ?_) (Ev.now _))
      · simp only [q1z.j1]
        rw [if_pos (by omega), if_pos (by omega), hr, ha]
        simp
      · simp only [q1z.j2]
        rw [if_pos trivial]
    · rw [if_neg ha]
      refine Ev.step (fun k => ?_) (Ev.step (f := fun k => q1z.l1 k (l ++ [0]) n (p.length : Int) (l.length : Int)) (g := fun k => q1z.j2 k l n (p.length : Int) false) (fun k => ?_) ?_)
      · simp only [q1z.j1]
        rw [if_pos (by omega), if_pos (by omega), hr, show (a == n) = false from by simpa using ha]
      · simp only [q1z.j2]
        rw [if_neg (by simp), if_pos (by omega), Option.bind_some, wr _ (by simp only [List.length_append, List.length_singleton]; omega) (by simp only [List.length_append, List.length_singleton]; omega)]
        congr 1
        simp
      · have h1 := with_l1 n p (a :: r) [] 0 (by have := congrArg List.length hs; simp only [List.length_append, List.length_cons, List.length_nil] at this ⊢; omega)
        have e1 : p ++ a :: r ++ [0] ++ [] = l ++ [0] := by rw [List.append_nil, ← hs]
        have e2 : p.length + (a :: r).length = l.length := by rw [← List.length_append, ← hs]
        rw [e1, e2] at h1
        rw [List.append_nil] at h1
        exact h1
end Go.Proofs.Ytdkbfcogmlghfaa.P

namespace Go.Proofs.Ytdkbfcogmlghfaa.P
open Go.RowKit Go.Proofs.YtdkbfcogmlghfaaW.PrintWords Go.Proofs.YtdkbfcogmlghfaaW.PrintMore
set_option linter.unusedVariables false
set_option linter.unusedSimpArgs false
/-! The document's begins: the cuts, each once, rising. -/
def insAll : List Int → List Int → List Int
  | out, [] => out
  | out, c :: cs => insAll (ins c out) cs
theorem insAll_spec : ∀ (cs out : List Int), Rising out → Rising (insAll out cs) ∧ (∀ x, x ∈ insAll out cs ↔ x ∈ out ∨ x ∈ cs) ∧ (insAll out cs).length ≤ out.length + cs.length
  | [], out, h => ⟨h, fun x => by simp [insAll], by simp [insAll]⟩
  | c :: cs, out, h => by
    obtain ⟨q1, q2, q3⟩ := insAll_spec cs (ins c out) (rising_ins c out h)
    have hl := length_ins c out
    refine ⟨q1, fun x => ?_, by simp only [insAll, List.length_cons]; omega⟩
    simp only [insAll]
    rw [q2, mem_ins, List.mem_cons]
    constructor
    · rintro ((h | h) | h)
      · exact .inr (.inl h)
      · exact .inl h
      · exact .inr (.inr h)
    · rintro (h | h | h)
      · exact .inl (.inr h)
      · exact .inl (.inl h)
      · exact .inr h
theorem insAll_append : ∀ (a b out : List Int), insAll out (a ++ b) = insAll (insAll out a) b
  | [], _, _ => rfl
  | c :: a, b, out => by simp only [List.cons_append, insAll]; exact insAll_append a b _
theorem insAll_set (cs : List Int) : insAll [0] cs = setU (0 :: cs) := by
  obtain ⟨q1, q2, _⟩ := insAll_spec cs [0] (List.pairwise_singleton _ _)
  refine lt_unique _ _ q1 (setU_lt _) (fun x => ?_)
  rw [q2, setU_mem]
  simp
end Go.Proofs.Ytdkbfcogmlghfaa.P

namespace Go.Proofs.Ytdkbfcogmlghfaa.P
open Go.RowKit Go.Proofs.YtdkbfcogmlghfaaW.PrintWords Go.Proofs.YtdkbfcogmlghfaaW.PrintMore
set_option linter.unusedVariables false
set_option linter.unusedSimpArgs false
/-! The document's words: in a box, alike. -/
theorem refInC_f (lo hi c : Nat) (h1 : lo < 4294967296) (h2 : hi < 4294967296) (h3 : c < 4294967296) : q3z.f (lo : Int) (hi : Int) (c : Int) = some (inB lo hi c) := by
  unfold q3z.f inB withinN
  rw [quoN lo h1, quoN hi h2, quoN c h3, remN lo, remN hi, remN c]
  by_cases c1 : lo / 65536 ≤ c / 65536
  · rw [if_pos (by omega), decide_eq_true c1, Bool.true_and]
    by_cases c2 : c / 65536 ≤ hi / 65536
    · rw [if_pos (by omega), decide_eq_true c2, Bool.true_and]
      by_cases c3 : lo % 65536 ≤ c % 65536
      · rw [if_pos (by omega), decide_eq_true c3, Bool.true_and]
        congr 1
        rw [decide_eq_decide]
        omega
      · rw [if_neg (by omega), decide_eq_false c3, Bool.false_and]
    · rw [if_neg (by omega), decide_eq_false c2]
      simp
  · rw [if_neg (by omega), decide_eq_false c1, Bool.false_and]
theorem refBox_f (l : List S24) (hl : Boxes l) (b : S24) (hb : b ∈ l) (c : Int) (h0 : 0 ≤ c) (h1 : c < 4294967296) : q3z.f b.f0 b.f1 c = some (inS c b) := by
  obtain ⟨lo, hi, e1, e2, l1, l2⟩ := hl.2 b hb
  obtain ⟨n, rfl⟩ : ∃ n : Nat, c = (n : Int) := ⟨c.toNat, by omega⟩
  unfold inS
  rw [e1, e2, refInC_f lo hi n l1 l2 (by omega)]
  rfl
theorem alike_l0 (l : List S24) (hl : Boxes l) (c d : Int) (hc : 0 ≤ c ∧ c < 4294967296) (hd : 0 ≤ d ∧ d < 4294967296) : ∀ (e j : Nat), j + e = l.length →
    Ev (fun k => q4z.l0 k c d l (l.length : Int) (j : Int)) (decide (kb (l.drop j) c = kb (l.drop j) d))
  | 0, j, hj => by
    rw [List.drop_eq_nil_of_le (by omega)]
    refine Ev.step (f := fun _ => some true) (fun k => ?_) (Ev.now _)
    simp only [q4z.l0]
    rw [if_neg (by omega)]
  | e + 1, j, hj => by
    have hjl : j < l.length := by omega
    have hll := hl.1
    have hrd := rdC24 l j hjl
    have hmem : l[j] ∈ l := List.getElem_mem hjl
    have f1 := refBox_f l hl l[j] hmem c hc.1 hc.2
    have f2 := refBox_f l hl l[j] hmem d hd.1 hd.2
    have ih := alike_l0 l hl c d hc hd e (j + 1) (by omega)
    rw [List.drop_eq_getElem_cons hjl]
    generalize l[j] = b at hrd f1 f2
    by_cases hb : inS c b = inS d b
    · have hk : decide (kb (b :: l.drop (j + 1)) c = kb (b :: l.drop (j + 1)) d) = decide (kb (l.drop (j + 1)) c = kb (l.drop (j + 1)) d) := by
        apply decide_eq_decide.2
        unfold kb
        simp only [List.map_cons, hb, List.cons.injEq, true_and]
      rw [hk]
      refine Ev.step (fun k => ?_) ih
      simp only [q4z.l0]
      rw [if_pos (by omega), if_pos (by omega), if_pos (by omega), hrd, f1, f2, Option.bind_some, Option.bind_some, wrC j (by omega), hb, if_neg (by simp)]
    · have hk : decide (kb (b :: l.drop (j + 1)) c = kb (b :: l.drop (j + 1)) d) = false := by
        apply decide_eq_false
        rw [kb_iff]
        intro h
        exact hb (h b List.mem_cons_self)
      rw [hk]
      refine Ev.step (f := fun _ => some false) (fun k => ?_) (Ev.now _)
      simp only [q4z.l0]
      rw [if_pos (by omega), if_pos (by omega), if_pos (by omega), hrd, f1, f2, Option.bind_some, Option.bind_some, if_pos (by simpa using hb)]
theorem alike_ev (l : List S24) (hl : Boxes l) (c d : Int) (hc : 0 ≤ c ∧ c < 4294967296) (hd : 0 ≤ d ∧ d < 4294967296) : Ev (fun k => q4z.f k l c d) (decide (kb l c = kb l d)) := by
  have := alike_l0 l hl c d hc hd l.length 0 (by omega)
  rw [List.drop_zero] at this
  exact Ev.congr (fun k => rfl) this
end Go.Proofs.Ytdkbfcogmlghfaa.P

namespace Go.Proofs.Ytdkbfcogmlghfaa.P
open Go.RowKit Go.Proofs.YtdkbfcogmlghfaaW.PrintWords
/-! Eventually: facts of callees used at the same round. -/
theorem Ev.use {α β : Type} {g : Nat → Option α} {F G : Nat → Option β} {a : α} {r : β} (h : Ev g a) (hG : Ev G r) (hF : ∀ k, g k = some a → F (k + 1) = G k) : Ev F r := by
  obtain ⟨K, h⟩ := h
  obtain ⟨K', hG⟩ := hG
  refine ⟨max K K' + 1, fun n hn => ?_⟩
  obtain ⟨m, rfl⟩ : ∃ m, n = m + 1 := ⟨n - 1, by omega⟩
  rw [hF m (h m (by omega))]
  exact hG m (by omega)
theorem Ev.use2 {α α' β : Type} {g : Nat → Option α} {g' : Nat → Option α'} {F G : Nat → Option β} {a : α} {a' : α'} {r : β} (h : Ev g a) (h' : Ev g' a') (hG : Ev G r) (hF : ∀ k, g k = some a → g' k = some a' → F (k + 1) = G k) : Ev F r := by
  obtain ⟨K, h⟩ := h
  obtain ⟨K2, h'⟩ := h'
  obtain ⟨K', hG⟩ := hG
  refine ⟨max (max K K2) K' + 1, fun n hn => ?_⟩
  obtain ⟨m, rfl⟩ : ∃ m, n = m + 1 := ⟨n - 1, by omega⟩
  rw [hF m (h m (by omega)) (h' m (by omega))]
  exact hG m (by omega)
theorem Ev.use3 {α α' α2 β : Type} {g : Nat → Option α} {g' : Nat → Option α'} {g2 : Nat → Option α2} {F G : Nat → Option β} {a : α} {a' : α'} {a2 : α2} {r : β} (h : Ev g a) (h' : Ev g' a') (h2 : Ev g2 a2) (hG : Ev G r) (hF : ∀ k, g k = some a → g' k = some a' → g2 k = some a2 → F (k + 1) = G k) : Ev F r := by
  obtain ⟨K, h⟩ := h
  obtain ⟨K2, h'⟩ := h'
  obtain ⟨K3, h2⟩ := h2
  obtain ⟨K', hG⟩ := hG
  refine ⟨max (max K K2) (max K3 K') + 1, fun n hn => ?_⟩
  obtain ⟨m, rfl⟩ : ∃ m, n = m + 1 := ⟨n - 1, by omega⟩
  rw [hF m (h m (by omega)) (h' m (by omega)) (h2 m (by omega))]
  exact hG m (by omega)
/-- The same without a step. -/
theorem Ev.with {α β : Type} {g : Nat → Option α} {F G : Nat → Option β} {a : α} {r : β} (h : Ev g a) (hG : Ev G r) (hF : ∀ k, g k = some a → F k = G k) : Ev F r := by
  obtain ⟨K, h⟩ := h
  obtain ⟨K', hG⟩ := hG
  exact ⟨max K K', fun n hn => by rw [hF n (h n (by omega))]; exact hG n (by omega)⟩
theorem Ev.with2 {α α' β : Type} {g : Nat → Option α} {g' : Nat → Option α'} {F G : Nat → Option β} {a : α} {a' : α'} {r : β} (h : Ev g a) (h' : Ev g' a') (hG : Ev G r) (hF : ∀ k, g k = some a → g' k = some a' → F k = G k) : Ev F r := by
  obtain ⟨K, h⟩ := h
  obtain ⟨K2, h'⟩ := h'
  obtain ⟨K', hG⟩ := hG
  exact ⟨max (max K K2) K', fun n hn => by rw [hF n (h n (by omega)) (h' n (by omega))]; exact hG n (by omega)⟩
/-- The last step. -/
theorem Ev.last {β : Type} {F : Nat → Option β} {r : β} (hF : ∀ k, F (k + 1) = some r) : Ev F r := ⟨1, fun n hn => by
  obtain ⟨m, rfl⟩ : ∃ m, n = m + 1 := ⟨n - 1, by omega⟩
  exact hF m⟩
/-- As a pair, of two. -/
theorem Ev.and {α α' : Type} {g : Nat → Option α} {g' : Nat → Option α'} {a : α} {a' : α'} (h : Ev g a) (h' : Ev g' a') : ∃ K, ∀ k, K ≤ k → g k = some a ∧ g' k = some a' := by
  obtain ⟨K, h⟩ := h
  obtain ⟨K2, h'⟩ := h'
  exact ⟨max K K2, fun k hk => ⟨h k (by omega), h' k (by omega)⟩⟩
end Go.Proofs.Ytdkbfcogmlghfaa.P

namespace Go.Proofs.Ytdkbfcogmlghfaa.P
open Go.RowKit Go.Proofs.YtdkbfcogmlghfaaW.PrintWords Go.Proofs.YtdkbfcogmlghfaaW.PrintMore
set_option linter.unusedVariables false
set_option linter.unusedSimpArgs false
/-! The document's Cells answers cellsOf. -/
def cutB (by_ : Int) (b : S24) : List Int := (Int.tdiv b.f0 by_ % 4294967296 % 65536) :: (if (Int.tdiv b.f1 by_ % 65536) < 65535 then [Int.tdiv b.f1 by_ % 65536 + 1] else [])
theorem cutB_len (y : Int) (b : S24) : (cutB y b).length ≤ 2 := by unfold cutB; split <;> simp
theorem cutB_x (lo hi : Nat) (h1 : lo < 4294967296) (h2 : hi < 4294967296) : cutB 65536 ⟨(lo : Int), (hi : Int)⟩ = cutX ⟨(lo : Int), (hi : Int)⟩ := by
  unfold cutB cutX
  simp only []
  rw [quoN lo h1, Int.tdiv_eq_ediv_of_nonneg (by omega)]
  have e1 : ((lo / 65536 : Nat) : Int) % 65536 = ((lo / 65536 : Nat) : Int) := by omega
  rw [e1]
  by_cases c : hi / 65536 < 65535
  · rw [if_pos (by omega), if_pos (by omega)]
    congr 2
    omega
  · rw [if_neg (by omega), if_neg (by omega)]
theorem cutB_y (lo hi : Nat) (h1 : lo < 4294967296) (h2 : hi < 4294967296) : cutB 1 ⟨(lo : Int), (hi : Int)⟩ = cutY ⟨(lo : Int), (hi : Int)⟩ := by
  unfold cutB cutY
  simp only []
  rw [remN lo, remN hi, Int.tdiv_one, Int.tdiv_one]
  have e1 : (lo : Int) % 4294967296 % 65536 = ((lo % 65536 : Nat) : Int) := by omega
  rw [e1]
  by_cases c : hi % 65536 < 65535
  · rw [if_pos (by omega), if_pos (by omega)]
    congr 2
    omega
  · rw [if_neg (by omega), if_neg (by omega)]
theorem begins_l0 (l : List S24) (hl : l.length ≤ 1000) (y : Int) (hy : y ≠ 0) : ∀ (d j : Nat) (out : List Int), j + d = l.length → out.length + 2 * d ≤ 10000 →
    Ev (fun k => q2z.l0 k y out l (l.length : Int) (j : Int)) (insAll out ((l.drop j).flatMap (cutB y)))
  | 0, j, out, hj, ho => by
    rw [List.drop_eq_nil_of_le (by omega)]
    refine Ev.step (f := fun _ => some out) (fun k => ?_) (Ev.now _)
    simp only [q2z.l0]
    rw [if_neg (by omega)]
  | d + 1, j, out, hj, ho => by
    have hjl : j < l.length := by omega
    have hrd := rdC24 l j hjl
    rw [List.drop_eq_getElem_cons hjl]
    generalize l[j] = b at hrd
    rw [List.flatMap_cons, insAll_append]
    have hi1 := length_ins (Int.tdiv b.f0 y % 4294967296 % 65536) out
    have w1 := with_ev out (Int.tdiv b.f0 y % 4294967296 % 65536) (by omega)
    by_cases hc : (Int.tdiv b.f1 y % 65536) < 65535
    · have hcut : cutB y b = [Int.tdiv b.f0 y % 4294967296 % 65536, Int.tdiv b.f1 y % 65536 + 1] := by unfold cutB; rw [if_pos hc]
      rw [hcut]
      simp only [insAll]
      have w2 := with_ev (ins (Int.tdiv b.f0 y % 4294967296 % 65536) out) (Int.tdiv b.f1 y % 65536 + 1) (by omega)
      have hi2 := length_ins (Int.tdiv b.f1 y % 65536 + 1) (ins (Int.tdiv b.f0 y % 4294967296 % 65536) out)
      have ih := begins_l0 l hl y hy d (j + 1) (ins (Int.tdiv b.f1 y % 65536 + 1) (ins (Int.tdiv b.f0 y % 4294967296 % 65536) out)) (by omega) (by omega)
      refine Ev.use2 w1 w2 ih (fun k e1 e2 => ?_)
      simp only [q2z.l0]
      rw [if_pos (by omega), if_pos (by omega), if_pos (by omega), if_neg hy, hrd, wrC j (by omega), e1, Option.bind_some, if_pos hc, e2, Option.bind_some]
    · have hcut : cutB y b = [Int.tdiv b.f0 y % 4294967296 % 65536] := by unfold cutB; rw [if_neg hc]
      rw [hcut]
      simp only [insAll]
      have ih := begins_l0 l hl y hy d (j + 1) (ins (Int.tdiv b.f0 y % 4294967296 % 65536) out) (by omega) (by omega)
      refine Ev.use w1 ih (fun k e1 => ?_)
      simp only [q2z.l0]
      rw [if_pos (by omega), if_pos (by omega), if_pos (by omega), if_neg hy, hrd, wrC j (by omega), e1, Option.bind_some, if_neg hc]
theorem flat_cut (l : List S24) (hl : Boxes l) : l.flatMap (cutB 65536) = l.flatMap cutX ∧ l.flatMap (cutB 1) = l.flatMap cutY := by
  have key : ∀ b ∈ l, cutB 65536 b = cutX b ∧ cutB 1 b = cutY b := fun b hb => by
    obtain ⟨lo, hi, e1, e2, l1, l2⟩ := hl.2 b hb
    obtain ⟨f0, f1⟩ := b
    simp only at e1 e2
    subst e1; subst e2
    exact ⟨cutB_x lo hi l1 l2, cutB_y lo hi l1 l2⟩
  have gen : ∀ (f g : S24 → List Int) (l : List S24), (∀ b ∈ l, f b = g b) → l.flatMap f = l.flatMap g := by
    intro f g l
    induction l with
    | nil => intro _; rfl
    | cons b l ih =>
      intro h
      rw [List.flatMap_cons, List.flatMap_cons, h b List.mem_cons_self, ih (fun x hx => h x (List.mem_cons_of_mem _ hx))]
  exact ⟨gen _ _ l (fun b hb => (key b hb).1), gen _ _ l (fun b hb => (key b hb).2)⟩
theorem begins_x (l : List S24) (hl : Boxes l) : Ev (fun k => q2z.f k l 65536) (setU (xsOf l)) := by
  have hll := hl.1
  have h := begins_l0 l (by omega) 65536 (by decide) l.length 0 [0] (by omega) (by simp; omega)
  rw [List.drop_zero, insAll_set, (flat_cut l hl).1] at h
  exact Ev.congr (fun k => rfl) h
theorem begins_y (l : List S24) (hl : Boxes l) : Ev (fun k => q2z.f k l 1) (setU (ysOf l)) := by
  have hll := hl.1
  have h := begins_l0 l (by omega) 1 (by decide) l.length 0 [0] (by omega) (by simp; omega)
  rw [List.drop_zero, insAll_set, (flat_cut l hl).2] at h
  exact Ev.congr (fun k => rfl) h
/-! The loops. -/
def stepO (l : List S24) (out : List Int) (c : Int) : List Int := if out.any (fun d => decide (kb l c = kb l d)) = true then out else out ++ [c]
def runO (l : List S24) : List Int → List Int → List Int
  | [], out => out
  | c :: cs, out => runO l cs (stepO l out c)
theorem runO_append (l : List S24) : ∀ (a b out : List Int), runO l (a ++ b) out = runO l b (runO l a out)
  | [], _, _ => rfl
  | c :: a, b, out => by simp only [List.cons_append, runO]; exact runO_append l a b _
theorem stepO_len (l : List S24) (out : List Int) (c : Int) : (stepO l out c).length ≤ out.length + 1 := by unfold stepO; split <;> simp
theorem runO_len (l : List S24) : ∀ (cs out : List Int), (runO l cs out).length ≤ out.length + cs.length
  | [], out => by simp [runO]
  | c :: cs, out => by
    have h1 := runO_len l cs (stepO l out c)
    have h2 := stepO_len l out c
    simp only [runO, List.length_cons]
    omega
theorem runO_mem (l : List S24) (P : Int → Prop) : ∀ (cs out : List Int), (∀ x ∈ out, P x) → (∀ x ∈ cs, P x) → ∀ x ∈ runO l cs out, P x
  | [], out, h, _ => h
  | c :: cs, out, h, hc => by
    refine runO_mem l P cs (stepO l out c) (fun x hx => ?_) (fun x hx => hc x (List.mem_cons_of_mem _ hx))
    unfold stepO at hx
    split at hx
    · exact h x hx
    · rcases List.mem_append.1 hx with hx | hx
      · exact h x hx
      · rw [List.mem_singleton.1 hx]; exact hc c List.mem_cons_self
/-- The kinds seen are those of the cells. -/
theorem runO_runK (l : List S24) : ∀ (cs : List Int) (s : List (List UInt8) × List Int), (∀ x, x ∈ s.1 ↔ ∃ d ∈ s.2, kb l d = x) → (runK l cs s).2 = runO l cs s.2
  | [], s, _ => rfl
  | c :: cs, s, hs => by
    have hany : s.2.any (fun d => decide (kb l c = kb l d)) = decide (kb l c ∈ s.1) := by
      rw [Bool.eq_iff_iff, List.any_eq_true, decide_eq_true_iff, hs]
      constructor
      · rintro ⟨d, hd, he⟩
        exact ⟨d, hd, (of_decide_eq_true he).symm⟩
      · rintro ⟨d, hd, he⟩
        exact ⟨d, hd, decide_eq_true he.symm⟩
    simp only [runK, runO]
    have hst : (stepK l s c).2 = stepO l s.2 c := by
      unfold stepK stepO
      rw [hany]
      split <;> rfl
    rw [← hst]
    refine runO_runK l cs (stepK l s c) ?_
    unfold stepK
    by_cases hm : kb l c ∈ s.1
    · rw [if_pos (decide_eq_true hm)]
      exact hs
    · rw [if_neg (by simpa using hm)]
      intro x
      simp only [List.mem_cons, List.mem_append, List.not_mem_nil, or_false]
      rw [hs]
      constructor
      · rintro (rfl | ⟨d, hd, he⟩)
        · exact ⟨c, .inr rfl, rfl⟩
        · exact ⟨d, .inl hd, he⟩
      · rintro ⟨d, hd | rfl, he⟩
        · exact .inr ⟨d, hd, he⟩
        · exact .inl he.symm
theorem cells_l2 (l : List S24) (hl : Boxes l) (out : List Int) (ho : ∀ d ∈ out, 0 ≤ d ∧ d < 4294967296) (hol : out.length ≤ 1000000) (x c : Int) (hc : 0 ≤ c ∧ c < 4294967296) (xs : List Int) (xn xi : Int) (ys : List Int) (yn : Int) (j : Nat) (hj : j < 1000000) (r : List Int × Int) : ∀ (e i : Nat) (g : Bool), i + e = out.length →
    Ev (fun k => q5z.l1 k l (if (g || (out.drop i).any (fun d => decide (kb l c = kb l d))) = true then out else out ++ [c]) x xs xn xi ys yn ((j + 1 : Nat) : Int)) r →
    Ev (fun k => q5z.l2 k l out x c g xs xn xi ys yn (j : Int) out (out.length : Int) (i : Int)) r
  | 0, i, g, hi, h => by
    rw [List.drop_eq_nil_of_le (by omega), List.any_nil, Bool.or_false] at h
    refine Ev.step (fun k => ?_) h
    simp only [q5z.l2]
    rw [if_neg (by omega), wrC j (by omega)]
    cases g with
    | true => simp only [if_true]
    | false => simp only [Bool.false_eq_true, if_false]; rw [if_pos (by omega)]
  | e + 1, i, g, hi, h => by
    have hil : i < out.length := by omega
    have hrd := rdI out i hil
    have hd := ho out[i] (List.getElem_mem hil)
    rw [List.drop_eq_getElem_cons hil, List.any_cons] at h
    generalize out[i] = d at hrd hd h
    have ih := cells_l2 l hl out ho hol x c hc xs xn xi ys yn j hj r e (i + 1) (g || decide (kb l c = kb l d)) (by omega) (by rw [Bool.or_assoc]; exact h)
    cases g with
    | true =>
      rw [Bool.true_or] at ih
      refine Ev.step (fun k => ?_) ih
      simp only [q5z.l2, if_true]
      rw [if_pos (by omega), if_pos (by omega), if_pos (by omega), wrC i (by omega)]
    | false =>
      rw [Bool.false_or] at ih
      refine Ev.use (alike_ev l hl c d hc hd) ih (fun k e1 => ?_)
      simp only [q5z.l2, Bool.false_eq_true, if_false]
      rw [if_pos (by omega), if_pos (by omega), if_pos (by omega), hrd, wrC i (by omega), e1, Option.bind_some]
theorem cells_l1 (l : List S24) (hl : Boxes l) (x : Int) (hx : 0 ≤ x ∧ x < 65536) (xs : List Int) (xn : Int) (i : Nat) (hi : i < 1000000) (ys : List Int) (hys : ∀ y ∈ ys, 0 ≤ y ∧ y < 65536) (hyl : ys.length ≤ 1000) (r : List Int × Int) : ∀ (e j : Nat) (out : List Int), j + e = ys.length → (∀ d ∈ out, 0 ≤ d ∧ d < 4294967296) → out.length + e ≤ 900000 →
    Ev (fun k => q5z.l0 k l (runO l ((ys.drop j).map (fun y => x * 65536 + y)) out) xs xn ((i + 1 : Nat) : Int)) r →
    Ev (fun k => q5z.l1 k l out x xs xn (i : Int) ys (ys.length : Int) (j : Int)) r
  | 0, j, out, hj, ho, hol, h => by
    rw [List.drop_eq_nil_of_le (by omega)] at h
    refine Ev.step (fun k => ?_) h
    simp only [q5z.l1, List.map_nil, runO]
    rw [if_neg (by omega), wrC i (by omega)]
  | e + 1, j, out, hj, ho, hol, h => by
    have hjl : j < ys.length := by omega
    have hrd := rdI ys j hjl
    have hy := hys ys[j] (List.getElem_mem hjl)
    rw [List.drop_eq_getElem_cons hjl, List.map_cons] at h
    generalize ys[j] = y at hrd hy h
    simp only [runO] at h
    have hlen := stepO_len l out (x * 65536 + y)
    have ih := cells_l1 l hl x hx xs xn i hi ys hys hyl r e (j + 1) (stepO l out (x * 65536 + y)) (by omega) (fun d hd => by
      unfold stepO at hd
      split at hd
      · exact ho d hd
      · rcases List.mem_append.1 hd with hd | hd
        · exact ho d hd
        · rw [List.mem_singleton.1 hd]; omega) (by omega) h
    have h2 := cells_l2 l hl out ho (by omega) x (x * 65536 + y) (by omega) xs xn (i : Int) ys (ys.length : Int) j (by omega) r out.length 0 false (by omega) (by
      rw [List.drop_zero, Bool.false_or]
      exact ih)
    refine Ev.step (fun k => ?_) h2
    have hm : (65536 * x + y) % 4294967296 = x * 65536 + y := by omega
    simp only [q5z.l1]
    rw [if_pos (by omega), if_pos (by omega), if_pos (by omega), hrd, hm]
    rfl
theorem cells_l0 (l : List S24) (hl : Boxes l) (xs : List Int) (hxs : ∀ x ∈ xs, 0 ≤ x ∧ x < 65536) (hxl : xs.length ≤ 200) : ∀ (e i : Nat) (out : List Int), i + e = xs.length → (∀ d ∈ out, 0 ≤ d ∧ d < 4294967296) → out.length + 200 * e ≤ 400000 →
    Ev (fun k => q5z.l0 k l out xs (xs.length : Int) (i : Int)) (runO l (gridK (xs.drop i) (setU (ysOf l))) out, 0)
  | 0, i, out, hi, ho, hol => by
    rw [List.drop_eq_nil_of_le (by omega)]
    refine Ev.step (f := fun _ => some (out, 0)) (fun k => ?_) (Ev.now _)
    simp only [q5z.l0]
    rw [if_neg (by omega)]
  | e + 1, i, out, hi, ho, hol => by
    have hil : i < xs.length := by omega
    have hrd := rdI xs i hil
    have hx := hxs xs[i] (List.getElem_mem hil)
    rw [List.drop_eq_getElem_cons hil]
    generalize xs[i] = x at hrd hx
    simp only [gridK]
    rw [runO_append]
    have fy := flat_len cutY cutY_len l
    have ly := setU_le (ysOf l)
    have hll := hl.1
    have hyl : (setU (ysOf l)).length ≤ 200 := by
      unfold ysOf at ly ⊢
      simp only [List.length_cons] at ly
      omega
    have hrl := runO_len l ((setU (ysOf l)).map (fun y => x * 65536 + y)) out
    rw [List.length_map] at hrl
    have ih := cells_l0 l hl xs hxs hxl e (i + 1) (runO l ((setU (ysOf l)).map (fun y => x * 65536 + y)) out) (by omega) (runO_mem l (fun d => 0 ≤ d ∧ d < 4294967296) _ _ ho (fun d hd => by
      obtain ⟨y, hy, rfl⟩ := List.mem_map.1 hd
      have := mem_ys l hl y hy
      omega)) (by omega)
    have h1 := cells_l1 l hl x hx xs (xs.length : Int) i (by omega) (setU (ysOf l)) (fun y hy => mem_ys l hl y hy) (by omega) _ (setU (ysOf l)).length 0 out (by omega) ho (by omega) (by
      rw [List.drop_zero]
      exact ih)
    refine Ev.use (begins_y l hl) h1 (fun k e1 => ?_)
    simp only [q5z.l0]
    rw [if_pos (by omega), if_pos (by omega), if_pos (by omega), hrd, e1, Option.bind_some]
    rfl
theorem refCells_ev (l : List S24) (hl : Boxes l) : Ev (fun k => q5z.f k l) (cellsOf l, 0) := by
  have hll := hl.1
  have fx := flat_len cutX cutX_len l
  have lx := setU_le (xsOf l)
  have hxl : (setU (xsOf l)).length ≤ 200 := by
    unfold xsOf at lx ⊢
    simp only [List.length_cons] at lx
    omega
  have h0 := cells_l0 l hl (setU (xsOf l)) (fun x hx => mem_xs l hl x hx) hxl (setU (xsOf l)).length 0 [] (by omega) (by simp) (by simp; omega)
  rw [List.drop_zero] at h0
  have he : cellsOf l = runO l (gridK (setU (xsOf l)) (setU (ysOf l))) [] := runO_runK l _ ([], []) (by simp)
  rw [he]
  refine Ev.with (begins_x l hl) h0 (fun k e1 => ?_)
  unfold q5z.f
  rw [if_neg (by omega), e1, Option.bind_some]
  rfl
end Go.Proofs.Ytdkbfcogmlghfaa.P

namespace Go.Proofs.Ytdkbfcogmlghfaa.P
open Go.RowKit Go.Proofs.YtdkbfcogmlghfaaW.PrintWords Go.Proofs.YtdkbfcogmlghfaaW.PrintMore
theorem alive_ev : Ev (fun k => q9z.f k) true := by
  refine ⟨60, fun k hk => ?_⟩
  obtain ⟨m, rfl⟩ : ∃ m, k = m + 60 := ⟨k - 60, by omega⟩
  kernel_rfl
end Go.Proofs.Ytdkbfcogmlghfaa.P

namespace Go.Proofs.Ytdkbfcogmlghfaa.P
open Go.RowKit Go.Proofs.YtdkbfcogmlghfaaW.PrintWords Go.Proofs.YtdkbfcogmlghfaaW.PrintMore
set_option linter.unusedVariables false
set_option linter.unusedSimpArgs false
theorem nums_l0 (C : List Int) (hC : C.length ≤ 1000000000) : ∀ (e i : Nat), i + e = C.length → Ev (fun k => q6z.l0 k C C (C.length : Int) (i : Int)) true
  | 0, i, hi => by
    refine Ev.step (f := fun _ => some true) (fun k => ?_) (Ev.now _)
    simp only [q6z.l0]
    rw [if_neg (by omega)]
  | e + 1, i, hi => by
    refine Ev.step (fun k => ?_) (nums_l0 C hC e (i + 1) (by omega))
    simp only [q6z.l0]
    rw [if_pos (by omega), if_pos (by omega), if_pos (by omega), if_pos (by omega), if_pos trivial, wrC i (by omega)]
theorem nums_ev (C : List Int) (hC : C.length ≤ 1000000000) : Ev (fun k => q6z.f k C C) true := by
  refine Ev.congr (fun k => ?_) (nums_l0 C hC C.length 0 (by omega))
  unfold q6z.f
  rw [if_pos rfl]
  rfl
theorem same_l0 (l : List S24) (hl : l.length ≤ 17592186044416) : ∀ (e i : Nat), i + e = l.length → Ev (fun k => q10z.l0 k l l (l.length : Int) (i : Int)) true
  | 0, i, hi => by
    refine Ev.step (f := fun _ => some true) (fun k => ?_) (Ev.now _)
    simp only [q10z.l0]
    rw [if_neg (by omega)]
  | e + 1, i, hi => by
    refine Ev.step (fun k => ?_) (same_l0 l hl e (i + 1) (by omega))
    simp only [q10z.l0]
    rw [if_pos (by omega), if_pos (by omega), if_pos (by omega), if_pos (by omega), if_neg (by simp), wrC i (by omega)]
theorem cells_j0 (l : List S24) (hl : l.length < 17592186044416) (c : List Int) (hc : c.length ≤ 1000000000) (z : Int) (h1 : Ev (fun k => plane_Cells.f k l) (c, z)) (h2 : Ev (fun k => q5z.f k l) (c, z)) :
    Ev (fun k => q10z.j0 k l false) true := by
  have h3 : Ev (fun k => q10z.j1 k l l false) true := by
    refine Ev.step (fun k => ?_) (same_l0 l (by omega) l.length 0 (by omega))
    simp only [q10z.j1]
    rw [if_neg (by decide)]
    rfl
  refine Ev.step (fun k => ?_) (Ev.bind h1 (f := fun k t => (q5z.f k l).bind fun bt12 => (if t.2 = bt12.2 then ((q6z.f k t.1 bt12.1).bind fun t16 => (q10z.j1 k l l (!t16))) else (q10z.j1 k l l true))) (Ev.bind h2 (f := fun k t => (if z = t.2 then ((q6z.f k c t.1).bind fun t16 => (q10z.j1 k l l (!t16))) else (q10z.j1 k l l true))) ?_))
  · simp only [q10z.j0, Bool.false_eq_true, if_false, Option.bind_some, List.nil_append]
    rw [if_pos (by simp only [List.length_nil]; omega)]
  · simp only [if_true]
    exact Ev.bind (nums_ev c hc) (f := fun k t => q10z.j1 k l l (!t)) h3
theorem pure_PlaneCells (l0 : List (S24)) (h0 : (l0.length ≤ 9223372036854775807 ∧ ∀ z_ ∈ l0, good24 z_)) (h1 : l0.length * 8 ≤ 140737488351232) : ∃ k, q10z.f k l0 = some true := by
  refine (Ev.bind alive_ev (f := fun k t1 => if t1 = true then (if (l0.length : Int) > 8 then (q10z.j0 k l0 (decide ((l0.length : Int) ≤ 64))) else (q10z.j0 k l0 false)) else (some false)) ?_).rounds
  simp only [if_true]
  by_cases hg : (l0.length : Int) > 8
  · refine Ev.congr (fun k => if_pos hg) ?_
    by_cases h64 : (l0.length : Int) ≤ 64
    · rw [decide_eq_true h64]
      refine Ev.step (f := fun _ => some true) (fun k => ?_) (Ev.now _)
      simp only [q10z.j0, if_true]
    · rw [decide_eq_false h64]
      refine cells_j0 l0 (by omega) [] (by simp) 6 ?_ ?_
      · refine Ev.congr (fun k => ?_) (Ev.now _)
        unfold plane_Cells.f
        rw [if_pos (by omega)]
      · refine Ev.congr (fun k => ?_) (Ev.now _)
        unfold q5z.f
        rw [if_pos (by omega)]
  · refine Ev.congr (fun k => if_neg hg) ?_
    have hl : Boxes l0 := boxes_of l0 (by omega) h0.2
    obtain ⟨_, _, _, _, s5⟩ := cellsOf_spec l0 hl
    refine cells_j0 l0 (by omega) (cellsOf l0) (by omega) 0 ⟨66, fun k hk => cells_f l0 hl k hk⟩ (refCells_ev l0 hl)
end Go.Proofs.Ytdkbfcogmlghfaa.P

namespace Go.Proofs.Ytdkbfcogmlghfaa.P
open Go.ChangeShapes Go.WideShapes
/-- A row's slice is no longer than its weight allows. -/
theorem sized_len {H : Type} {enc : TypeId × Value → H} {P : Program} {W : World} {base : Nat} {spare : Nat → Bool} {held : Bool} {t e : TypeId} {a : Option Addr} {len cap : Nat} {d : DataW H} {ps : List MemPlace} {ts : List TypeId} {ds : List (DataW H)} {j : Nat}
    (hsz : (DataW.weightsEach P ts ds).all (· ≤ reachBytes) = true) (ht : ts[j]? = some t) (hd : ds[j]? = some d) (hu : P.underlying t = some (.slice e)) {B : Nat} (hB : P.bytesOf e = B)
    (h : DataW.Trod enc P W base spare held t (.slice a len cap) d ps) : len * B ≤ 140737488351232 := by
  obtain ⟨fuel, hf⟩ := h
  rcases DataW.trod_slice hu hf with ⟨hcs, _⟩ | ⟨x, l, c, elems, rest, n, _, hcs, hx, _, _, _, hel, _⟩
  · simp [Value.cells] at hcs
    obtain ⟨rfl, rfl, rfl⟩ := hcs
    simp
  · simp [Value.cells] at hcs
    obtain ⟨rfl, rfl, rfl⟩ := hcs
    obtain ⟨hx, _⟩ := Prod.mk.inj hx
    subst hx
    have z := sized_slice hsz ht hd hu
    rw [hB, List.length_map, List.length_map, hel] at z
    have h1 : reachBytes = 140737488351232 := by decide
    rw [h1] at z
    exact Nat.le_trans (Nat.mul_le_mul_right _ (by omega)) z
end Go.Proofs.Ytdkbfcogmlghfaa.P

namespace Go.Proofs.Ytdkbfcogmlghfaa.planeCells
open Go.ChangeShapes Go.WideShapes Go.ChangeAt Go.RowKit
open Go.ChangeMaps (open_string shut_string)
open Go.Proofs.YtdkbfcogmlghfaaW.PrintWords Go.Proofs.YtdkbfcogmlghfaaW.PrintLast Go.Proofs.YtdkbfcogmlghfaaW.PrintMore Go.Proofs.Ytdkbfcogmlghfaa.P
set_option linter.unusedVariables false
set_option linter.unusedSimpArgs false
theorem own : ownKnob Try.prog.godebug = none := by kernel_rfl
theorem laidOut : laidOutB Try.prog = true := by kernel_rfl
set_option maxRecDepth 100000 in
theorem lifted (os : Os) (started : os.Started) (H : Type) (enc : TypeId × Value → H) :
    ReturnsInHanded {} Try.checked os 4 .any (Rows.planeCellsSpec.pre6 enc Try.prog Try.f4 Rows.planeCellsRow.domain false) (Rows.planeCellsSpec.post enc Try.prog Try.f4 false true false false) := by
  refine returnsInHanded_of_change_sized (C := Try.checked) own started (by kernel_rfl) Try.func4
    (ChangeSpec.witness6 (enc := enc) (C := Try.checked) false ⟨#[], #[.slice none 0 0], []⟩ 8 (by kernel_rfl) (by kernel_rfl) (by kernel_rfl) (by kernel_rfl)) ?_
  intro W base args ds gs before hval0 hW hcnd hsz0 _
  have hval : ∀ (j : Nat) t v, Try.f4.params[j]? = some t → args[j]? = some v → Value.okWide Try.prog W .any base t v := hval0
  have hW' := hW
  obtain ⟨p, q, hA0, hV, rfl, hfz, hnd⟩ := hW
  have hA : DataW.TrodAll enc Try.prog W 0 (fun _ => true) true Try.f4.params.toList args.toList ds p := hA0
  rw [Try.params4] at hA hval
  obtain ⟨v0, vs0, d0, ds0, p0, q0, hargs, rfl, rfl, h0, r0⟩ := trodAll_cons hA
  obtain ⟨rfl, rfl, rfl⟩ := trodAll_nil r0
  obtain rfl : args = #[v0] := by cases args; simp_all
  obtain ⟨rfl, rfl⟩ := trodVars_none hV
  obtain ⟨a0, len0, cap0, rfl⟩ := okWide_slice Try.underlying30 (hval 0 30 v0 rfl rfl)
  have k0 := h0
  have lt0 : ∀ x ∈ p0, x.block < W.heap.size := by obtain ⟨m, hm⟩ := k0; exact DataW.trod_lt m _ _ _ hm
  obtain ⟨l0, hK0, hg0⟩ : ∃ l_ : List (S24), (Kd.slice 24 k24).K W l_ [.slice a0 len0 cap0] ∧ (l_.length ≤ 9223372036854775807 ∧ ∀ z_ ∈ l_, good24 z_) := by obtain ⟨fuel, hf⟩ := h0; exact (opens_slice Try.underlying30 (by kernel_rfl) opens_T24) _ _ _ (by simpa [Value.cells] using hf)
  obtain ⟨A0_, c0_, hc0, hle0, hC0⟩ := hK0
  simp only [List.cons.injEq, Value.slice.injEq, and_true] at hc0
  obtain ⟨rfl, rfl, rfl⟩ := hc0
  have hz0 := sized_len hsz0 (j := 0) (t := 30) rfl rfl Try.underlying30 (by kernel_rfl : Try.prog.bytesOf 24 = 8) h0
  clear hA0 hval0 hsz0
  obtain ⟨k_, hk_⟩ := pure_PlaneCells l0 hg0 hz0
  refine (q10z.calls k_ a0 cap0 l0 true W hC0 hle0 hk_).mono fun e W' ⟨he, bel⟩ => ?_
  subst he
  exact ⟨_, rfl, _, _, _, [], _, [], hW', trodAll_mk1 (shut_bool Try.underlying4 _), (trodAll_cons_mk (Below.trod laidOut (by kernel_rfl) (of_decide_eq_true (by kernel_rfl)) k0 bel lt0) trodAll_mk0), rfl, bel.frame _, fun h => by cases h⟩
theorem over : Rows.planeCellsRow.holds Try.pinned (OpenSpec.ofChange Rows.planeCellsSpec) :=
  OpenClaim.holds_of_wide 4 Try.f4 rfl rfl rfl rfl rfl rfl rfl ⟨rfl, rfl, rfl, rfl, rfl⟩ rfl rfl rfl rfl rfl (by kernel_rfl) Try.func4 (by kernel_rfl)
    (of_decide_eq_true (by kernel_rfl)) (by unfold Func.isWrapper; first | (rw [if_pos (by decide +kernel)]; kernel_rfl) | (rw [if_neg (by decide +kernel)]; exact ⟨rfl, rfl⟩))
    (fun os started H enc _ => lifted os started H enc)
theorem proved : Rows.PlaneCellsSaid := over
end Go.Proofs.Ytdkbfcogmlghfaa.planeCells
namespace Go.Proofs.Ytdkbfcogmlghfaa
/-- The row, under a short name, for the claim. -/
theorem planeCells_holds : Rows.PlaneCellsSaid := planeCells.proved
#print axioms planeCells_holds
end Go.Proofs.Ytdkbfcogmlghfaa
