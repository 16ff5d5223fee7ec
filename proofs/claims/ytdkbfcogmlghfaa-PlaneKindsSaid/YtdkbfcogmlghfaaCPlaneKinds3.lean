/-
  Proved: for every input the law PlaneKinds answers true, and each argument reads behind the call as it read before.
  Conditions: none beside the row's own.
-/
import Derived.Lib.SlicesCompact
import Derived.Test.YtdkbfcogmlghfaaRows
import Derived.WalkKit
import Derived.ProofKit
import Derived.OpenShut
import Derived.ShutString
import Derived.ChangeOld
import Derived.Below
import Derived.SizedLaws
import Derived.Test.YtdkbfcogmlghfaaCPlaneKinds0
import Derived.Test.YtdkbfcogmlghfaaCPlaneKinds1
import Derived.Test.YtdkbfcogmlghfaaCPlaneKinds2
namespace Go.Proofs.Ytdkbfcogmlghfaa.P
open Go.RowKit Go.Proofs.YtdkbfcogmlghfaaW.PrintWords Go.Proofs.YtdkbfcogmlghfaaW.PrintLast Go.Proofs.YtdkbfcogmlghfaaW.PrintMore
attribute [local go_sem] max2_int min2_int max_two min_two max_three min_three max_four min_four
set_option linter.unusedVariables false
set_option linter.unusedSimpArgs false

/-! ### dragomanref02_Meet: function 10 -/
def q6z.f (a0_0 : Int) (a0_1 : Int) (a1_0 : Int) (a1_1 : Int) : Option (Int × Int × Bool) := if (mx ((Int.tdiv a0_0 65536) % 4294967296) ((Int.tdiv a1_0 65536) % 4294967296)) > (mn ((Int.tdiv a0_1 65536) % 4294967296) ((Int.tdiv a1_1 65536) % 4294967296)) then (some (0, 0, false)) else (if (mx (Int.tmod a0_0 65536) (Int.tmod a1_0 65536)) > (mn (Int.tmod a0_1 65536) (Int.tmod a1_1 65536)) then (some (0, 0, false)) else (some (((65536 * (mx ((Int.tdiv a0_0 65536) % 4294967296) ((Int.tdiv a1_0 65536) % 4294967296))) + (mx (Int.tmod a0_0 65536) (Int.tmod a1_0 65536))) % 4294967296, ((65536 * (mn ((Int.tdiv a0_1 65536) % 4294967296) ((Int.tdiv a1_1 65536) % 4294967296))) + (mn (Int.tmod a0_1 65536) (Int.tmod a1_1 65536))) % 4294967296, true)))
set_option maxHeartbeats 8000000 in
set_option maxRecDepth 100000 in
theorem q6z.calls (a0_0 : Int) (a0_1 : Int) (a1_0 : Int) (a1_1 : Int) (r1 : Int) (r2 : Int) (r3 : Bool) (w : World) (h : q6z.f a0_0 a0_1 a1_0 a1_1 = some (r1, r2, r3)) :
  Calls Try.prog 10 #[.agg #[.int .u32 a0_0, .int .u32 a0_1], .agg #[.int .u32 a1_0, .int .u32 a1_1]] w fun e w' => e = .returned (.tuple #[.agg #[.int .u32 r1, .int .u32 r2], .bool r3]) ∧ Below w.heap.size w w' := by
 have hu24 := Try.underlying24
 have HB := Aside0.mk (Below.refl w.heap.size w)
 have H : (if (mx ((Int.tdiv a0_0 65536) % 4294967296) ((Int.tdiv a1_0 65536) % 4294967296)) > (mn ((Int.tdiv a0_1 65536) % 4294967296) ((Int.tdiv a1_1 65536) % 4294967296)) then (some (0, 0, false)) else (if (mx (Int.tmod a0_0 65536) (Int.tmod a1_0 65536)) > (mn (Int.tmod a0_1 65536) (Int.tmod a1_1 65536)) then (some (0, 0, false)) else (some (((65536 * (mx ((Int.tdiv a0_0 65536) % 4294967296) ((Int.tdiv a1_0 65536) % 4294967296))) + (mx (Int.tmod a0_0 65536) (Int.tmod a1_0 65536))) % 4294967296, ((65536 * (mn ((Int.tdiv a0_1 65536) % 4294967296) ((Int.tdiv a1_1 65536) % 4294967296))) + (mn (Int.tmod a0_1 65536) (Int.tmod a1_1 65536))) % 4294967296, true)))) = some (r1, r2, r3) := h
 clear h
 obtain ⟨ji3, hji3⟩ : ∃ j_ : Int, (mx ((Int.tdiv a0_0 65536) % 4294967296) ((Int.tdiv a1_0 65536) % 4294967296)) = j_ := ⟨_, rfl⟩
 replace H : (if (ji3) > (mn ((Int.tdiv a0_1 65536) % 4294967296) ((Int.tdiv a1_1 65536) % 4294967296)) then (some (0, 0, false)) else (if (mx (Int.tmod a0_0 65536) (Int.tmod a1_0 65536)) > (mn (Int.tmod a0_1 65536) (Int.tmod a1_1 65536)) then (some (0, 0, false)) else (some (((65536 * (ji3)) + (mx (Int.tmod a0_0 65536) (Int.tmod a1_0 65536))) % 4294967296, ((65536 * (mn ((Int.tdiv a0_1 65536) % 4294967296) ((Int.tdiv a1_1 65536) % 4294967296))) + (mn (Int.tmod a0_1 65536) (Int.tmod a1_1 65536))) % 4294967296, true)))) = some (r1, r2, r3) := by first | (rw [hji3] at H; exact H) | (simp only [hji3] at H ⊢; exact H)
 (try (have hji3h : ji3 ≤ 4294967295 := by (rw [← hji3]; unfold mx; (repeat' split) <;> omega)))
 (try (have hji3g : ji3 ≤ 64 := by omega))
 (try (have hji3l : 0 ≤ ji3 := by (rw [← hji3]; unfold mx; (repeat' split) <;> omega)))
 (try (have hji3m : 0 ≤ ji3 := by omega))
 have hji3_ : (if ((Int.tdiv a0_0 65536) % 4294967296) < ((Int.tdiv a1_0 65536) % 4294967296) then ((Int.tdiv a1_0 65536) % 4294967296) else ((Int.tdiv a0_0 65536) % 4294967296)) = ji3 := hji3
 obtain ⟨ji4, hji4⟩ : ∃ j_ : Int, (mx (Int.tmod a0_0 65536) (Int.tmod a1_0 65536)) = j_ := ⟨_, rfl⟩
 replace H : (if (ji3) > (mn ((Int.tdiv a0_1 65536) % 4294967296) ((Int.tdiv a1_1 65536) % 4294967296)) then (some (0, 0, false)) else (if (ji4) > (mn (Int.tmod a0_1 65536) (Int.tmod a1_1 65536)) then (some (0, 0, false)) else (some (((65536 * (ji3)) + (ji4)) % 4294967296, ((65536 * (mn ((Int.tdiv a0_1 65536) % 4294967296) ((Int.tdiv a1_1 65536) % 4294967296))) + (mn (Int.tmod a0_1 65536) (Int.tmod a1_1 65536))) % 4294967296, true)))) = some (r1, r2, r3) := by first | (rw [hji4] at H; exact H) | (simp only [hji4] at H ⊢; exact H)
 have hji4_ : (if (Int.tmod a0_0 65536) < (Int.tmod a1_0 65536) then (Int.tmod a1_0 65536) else (Int.tmod a0_0 65536)) = ji4 := hji4
 obtain ⟨ji5, hji5⟩ : ∃ j_ : Int, (mn ((Int.tdiv a0_1 65536) % 4294967296) ((Int.tdiv a1_1 65536) % 4294967296)) = j_ := ⟨_, rfl⟩
 replace H : (if (ji3) > (ji5) then (some (0, 0, false)) else (if (ji4) > (mn (Int.tmod a0_1 65536) (Int.tmod a1_1 65536)) then (some (0, 0, false)) else (some (((65536 * (ji3)) + (ji4)) % 4294967296, ((65536 * (ji5)) + (mn (Int.tmod a0_1 65536) (Int.tmod a1_1 65536))) % 4294967296, true)))) = some (r1, r2, r3) := by first | (rw [hji5] at H; exact H) | (simp only [hji5] at H ⊢; exact H)
 (try (have hji5h : ji5 ≤ 4294967295 := by (rw [← hji5]; unfold mn; (repeat' split) <;> omega)))
 (try (have hji5g : ji5 ≤ 64 := by omega))
 (try (have hji5l : 0 ≤ ji5 := by (rw [← hji5]; unfold mn; (repeat' split) <;> omega)))
 (try (have hji5m : 0 ≤ ji5 := by omega))
 have hji5_ : (if ((Int.tdiv a1_1 65536) % 4294967296) < ((Int.tdiv a0_1 65536) % 4294967296) then ((Int.tdiv a1_1 65536) % 4294967296) else ((Int.tdiv a0_1 65536) % 4294967296)) = ji5 := hji5
 obtain ⟨ji6, hji6⟩ : ∃ j_ : Int, (mn (Int.tmod a0_1 65536) (Int.tmod a1_1 65536)) = j_ := ⟨_, rfl⟩
 replace H : (if (ji3) > (ji5) then (some (0, 0, false)) else (if (ji4) > (ji6) then (some (0, 0, false)) else (some (((65536 * (ji3)) + (ji4)) % 4294967296, ((65536 * (ji5)) + (ji6)) % 4294967296, true)))) = some (r1, r2, r3) := by first | (rw [hji6] at H; exact H) | (simp only [hji6] at H ⊢; exact H)
 have hji6_ : (if (Int.tmod a1_1 65536) < (Int.tmod a0_1 65536) then (Int.tmod a1_1 65536) else (Int.tmod a0_1 65536)) = ji6 := hji6
 by_cases c7 : (ji3) > (ji5)
 ·
  rw [if_pos c7] at H
  have c7b0 : decide ((ji5) < (ji3)) = true := decide_eq_true c7
  clear c7
  simp only [Option.some.injEq, Prod.mk.injEq] at H
  obtain ⟨rfl, rfl, rfl⟩ := H
  go_enter Try.func10, Try.ntmps10
  go_wp2_with (first | ((with_reducible refine gate_dst (N := 2) rfl ?_); refine box_event ?hg (N := 2) ?hd (cs := #[.int .u32 a0_0, .int .u32 a0_1]) (t := 24) ?hr ?_; (case hd => rfl); (case hg => rfl); (case hr => first | (go_simp; done) | (go_simp; rfl)); intro gb1 hg w8 hbox hb; have n0_ := Aside0.mk (below_step (by repeat (first | (with_reducible first | exact HB.out | apply below_alloc | apply pw_below_drewN | apply below_drew1) | exact HB.out)) hb); have n1_ := Aside0.mk (hbox); have n2_ := Aside0.mk ((by rw [hg]; exact (below_size (by repeat (first | (with_reducible first | exact HB.out | apply below_alloc | apply pw_below_drewN | apply below_drew1) | exact HB.out))) : w.heap.size ≤ gb1)); have n3_ := Aside0.mk ((by rw [hg]; exact (below_size (by repeat (first | (with_reducible first | exact HB.out | apply below_alloc | apply pw_below_drewN | apply below_drew1) | exact HB.out))) : w.heap.size ≤ gb1)); clear HB; have HB := n0_; have BK1 := n1_; have GW1 := n2_; have GE1 := n3_; clear n0_ n1_ n2_ n3_; clear hb hbox hg) | ((with_reducible refine gate_dst (N := 3) rfl ?_); refine box_event ?hg (N := 3) ?hd (cs := #[.int .u32 a1_0, .int .u32 a1_1]) (t := 24) ?hr ?_; (case hd => rfl); (case hg => rfl); (case hr => first | (go_simp; done) | (go_simp; rfl)); intro gb2 hg w9 hbox hb; have n0_ := Aside0.mk (blk_below (g := gb1) (o := .cells #[.int .u32 a0_0, .int .u32 a0_1] 24 (0, 0)) (by (with_reducible repeat (first | refine blk_drewN ?_ _ | refine blk_drew ?_ | refine blk_alloc ?_ _)); exact BK1.out) hb); have n1_ := Aside0.mk (below_step (by repeat (first | (with_reducible first | exact HB.out | apply below_alloc | apply pw_below_drewN | apply below_drew1 | refine below_set ?_ GE1.out) | exact HB.out)) hb); have n2_ := Aside0.mk (hbox); have n3_ := Aside0.mk ((by rw [hg]; exact (below_size (by repeat (first | (with_reducible first | exact HB.out | apply below_alloc | apply pw_below_drewN | apply below_drew1 | refine below_set ?_ GE1.out) | exact HB.out))) : w.heap.size ≤ gb2)); have n4_ := Aside0.mk ((by rw [hg]; exact (below_size (by repeat (first | (with_reducible first | exact HB.out | apply below_alloc | apply pw_below_drewN | apply below_drew1 | refine below_set ?_ GE1.out) | exact HB.out))) : w.heap.size ≤ gb2)); have n5_ := Aside0.mk ((by rw [hg]; exact Nat.ne_of_lt (blk_lt (g := gb1) (o := .cells #[.int .u32 a0_0, .int .u32 a0_1] 24 (0, 0)) (by (with_reducible repeat (first | refine blk_drewN ?_ _ | refine blk_drew ?_ | refine blk_alloc ?_ _)); exact BK1.out)) : gb1 ≠ gb2)); have n6_ := Aside0.mk ((by rw [hg]; exact Nat.ne_of_gt (blk_lt (g := gb1) (o := .cells #[.int .u32 a0_0, .int .u32 a0_1] 24 (0, 0)) (by (with_reducible repeat (first | refine blk_drewN ?_ _ | refine blk_drew ?_ | refine blk_alloc ?_ _)); exact BK1.out)) : gb2 ≠ gb1)); clear BK1; clear HB; have BK1 := n0_; have HB := n1_; have BK2 := n2_; have GW2 := n3_; have GE2 := n4_; have NB1_2 := n5_; have NB2_1 := n6_; clear n0_ n1_ n2_ n3_ n4_ n5_ n6_; clear hb hbox hg) | ((with_reducible refine gate_dst (N := 4) rfl ?_); refine box_event ?hg (N := 4) ?hd (cs := #[.int .u32 0, .int .u32 0]) (t := 24) ?hr ?_; (case hd => rfl); (case hg => rfl); (case hr => first | (go_simp; done) | (go_simp; rfl)); intro gb3 hg w10 hbox hb; have n0_ := Aside0.mk (blk_below (g := gb1) (o := .cells #[.int .u32 a0_0, .int .u32 a0_1] 24 (0, 0)) (by (with_reducible repeat (first | refine blk_drewN ?_ _ | refine blk_drew ?_ | refine blk_alloc ?_ _)); exact BK1.out) hb); have n1_ := Aside0.mk (blk_below (g := gb2) (o := .cells #[.int .u32 a1_0, .int .u32 a1_1] 24 (0, 0)) (by (with_reducible repeat (first | refine blk_drewN ?_ _ | refine blk_drew ?_ | refine blk_alloc ?_ _)); exact BK2.out) hb); have n2_ := Aside0.mk (below_step (by repeat (first | (with_reducible first | exact HB.out | apply below_alloc | apply pw_below_drewN | apply below_drew1 | refine below_set ?_ GE1.out | refine below_set ?_ GE2.out) | exact HB.out)) hb); have n3_ := Aside0.mk (hbox); have n4_ := Aside0.mk ((by rw [hg]; exact (below_size (by repeat (first | (with_reducible first | exact HB.out | apply below_alloc | apply pw_below_drewN | apply below_drew1 | refine below_set ?_ GE1.out | refine below_set ?_ GE2.out) | exact HB.out))) : w.heap.size ≤ gb3)); have n5_ := Aside0.mk ((by rw [hg]; exact (below_size (by repeat (first | (with_reducible first | exact HB.out | apply below_alloc | apply pw_below_drewN | apply below_drew1 | refine below_set ?_ GE1.out | refine below_set ?_ GE2.out) | exact HB.out))) : w.heap.size ≤ gb3)); have n6_ := Aside0.mk ((by rw [hg]; exact Nat.ne_of_lt (blk_lt (g := gb1) (o := .cells #[.int .u32 a0_0, .int .u32 a0_1] 24 (0, 0)) (by (with_reducible repeat (first | refine blk_drewN ?_ _ | refine blk_drew ?_ | refine blk_alloc ?_ _)); exact BK1.out)) : gb1 ≠ gb3)); have n7_ := Aside0.mk ((by rw [hg]; exact Nat.ne_of_gt (blk_lt (g := gb1) (o := .cells #[.int .u32 a0_0, .int .u32 a0_1] 24 (0, 0)) (by (with_reducible repeat (first | refine blk_drewN ?_ _ | refine blk_drew ?_ | refine blk_alloc ?_ _)); exact BK1.out)) : gb3 ≠ gb1)); have n8_ := Aside0.mk ((by rw [hg]; exact Nat.ne_of_lt (blk_lt (g := gb2) (o := .cells #[.int .u32 a1_0, .int .u32 a1_1] 24 (0, 0)) (by (with_reducible repeat (first | refine blk_drewN ?_ _ | refine blk_drew ?_ | refine blk_alloc ?_ _)); exact BK2.out)) : gb2 ≠ gb3)); have n9_ := Aside0.mk ((by rw [hg]; exact Nat.ne_of_gt (blk_lt (g := gb2) (o := .cells #[.int .u32 a1_0, .int .u32 a1_1] 24 (0, 0)) (by (with_reducible repeat (first | refine blk_drewN ?_ _ | refine blk_drew ?_ | refine blk_alloc ?_ _)); exact BK2.out)) : gb3 ≠ gb2)); clear BK1; clear BK2; clear HB; have BK1 := n0_; have BK2 := n1_; have HB := n2_; have BK3 := n3_; have GW3 := n4_; have GE3 := n5_; have NB1_3 := n6_; have NB3_1 := n7_; have NB2_3 := n8_; have NB3_2 := n9_; clear n0_ n1_ n2_ n3_ n4_ n5_ n6_ n7_ n8_ n9_; clear hb hbox hg; have hnb11 := NB1_2.out; have hnc11 := NB2_1.out; have hnb12 := NB1_3.out; have hnc12 := NB3_1.out; have hcz13_0 : w10.cell? ⟨gb1, 0, none⟩ = some (.int .u32 a0_0) := (blk_cell BK1.out 0).trans rfl; have hcz13_1 : w10.cell? ⟨gb1, 1, none⟩ = some (.int .u32 a0_1) := (blk_cell BK1.out 1).trans rfl; have hfz13_0 := blk_frozen BK1.out 0; have hfz13_1 := blk_frozen BK1.out 1; have hnb14 := NB2_3.out; have hnc14 := NB3_2.out; have hcz15_0 : w10.cell? ⟨gb2, 0, none⟩ = some (.int .u32 a1_0) := (blk_cell BK2.out 0).trans rfl; have hcz15_1 : w10.cell? ⟨gb2, 1, none⟩ = some (.int .u32 a1_1) := (blk_cell BK2.out 1).trans rfl; have hfz15_0 := blk_frozen BK2.out 0; have hfz15_1 := blk_frozen BK2.out 1; have hcz16_0 : w10.cell? ⟨gb3, 0, none⟩ = some (.int .u32 0) := (blk_cell BK3.out 0).trans rfl; have hcz16_1 : w10.cell? ⟨gb3, 1, none⟩ = some (.int .u32 0) := (blk_cell BK3.out 1).trans rfl; have hfz16_0 := blk_frozen BK3.out 0; have hfz16_1 := blk_frozen BK3.out 1))
  repeat (go_quiet (first | ((with_reducible refine gate_dst (N := 2) rfl ?_); refine box_event ?hg (N := 2) ?hd (cs := #[.int .u32 a0_0, .int .u32 a0_1]) (t := 24) ?hr ?_; (case hd => rfl); (case hg => rfl); (case hr => first | (go_simp; done) | (go_simp; rfl)); intro gb1 hg w8 hbox hb; have n0_ := Aside0.mk (below_step (by repeat (first | (with_reducible first | exact HB.out | apply below_alloc | apply pw_below_drewN | apply below_drew1) | exact HB.out)) hb); have n1_ := Aside0.mk (hbox); have n2_ := Aside0.mk ((by rw [hg]; exact (below_size (by repeat (first | (with_reducible first | exact HB.out | apply below_alloc | apply pw_below_drewN | apply below_drew1) | exact HB.out))) : w.heap.size ≤ gb1)); have n3_ := Aside0.mk ((by rw [hg]; exact (below_size (by repeat (first | (with_reducible first | exact HB.out | apply below_alloc | apply pw_below_drewN | apply below_drew1) | exact HB.out))) : w.heap.size ≤ gb1)); clear HB; have HB := n0_; have BK1 := n1_; have GW1 := n2_; have GE1 := n3_; clear n0_ n1_ n2_ n3_; clear hb hbox hg) | ((with_reducible refine gate_dst (N := 3) rfl ?_); refine box_event ?hg (N := 3) ?hd (cs := #[.int .u32 a1_0, .int .u32 a1_1]) (t := 24) ?hr ?_; (case hd => rfl); (case hg => rfl); (case hr => first | (go_simp; done) | (go_simp; rfl)); intro gb2 hg w9 hbox hb; have n0_ := Aside0.mk (blk_below (g := gb1) (o := .cells #[.int .u32 a0_0, .int .u32 a0_1] 24 (0, 0)) (by (with_reducible repeat (first | refine blk_drewN ?_ _ | refine blk_drew ?_ | refine blk_alloc ?_ _)); exact BK1.out) hb); have n1_ := Aside0.mk (below_step (by repeat (first | (with_reducible first | exact HB.out | apply below_alloc | apply pw_below_drewN | apply below_drew1 | refine below_set ?_ GE1.out) | exact HB.out)) hb); have n2_ := Aside0.mk (hbox); have n3_ := Aside0.mk ((by rw [hg]; exact (below_size (by repeat (first | (with_reducible first | exact HB.out | apply below_alloc | apply pw_below_drewN | apply below_drew1 | refine below_set ?_ GE1.out) | exact HB.out))) : w.heap.size ≤ gb2)); have n4_ := Aside0.mk ((by rw [hg]; exact (below_size (by repeat (first | (with_reducible first | exact HB.out | apply below_alloc | apply pw_below_drewN | apply below_drew1 | refine below_set ?_ GE1.out) | exact HB.out))) : w.heap.size ≤ gb2)); have n5_ := Aside0.mk ((by rw [hg]; exact Nat.ne_of_lt (blk_lt (g := gb1) (o := .cells #[.int .u32 a0_0, .int .u32 a0_1] 24 (0, 0)) (by (with_reducible repeat (first | refine blk_drewN ?_ _ | refine blk_drew ?_ | refine blk_alloc ?_ _)); exact BK1.out)) : gb1 ≠ gb2)); have n6_ := Aside0.mk ((by rw [hg]; exact Nat.ne_of_gt (blk_lt (g := gb1) (o := .cells #[.int .u32 a0_0, .int .u32 a0_1] 24 (0, 0)) (by (with_reducible repeat (first | refine blk_drewN ?_ _ | refine blk_drew ?_ | refine blk_alloc ?_ _)); exact BK1.out)) : gb2 ≠ gb1)); clear BK1; clear HB; have BK1 := n0_; have HB := n1_; have BK2 := n2_; have GW2 := n3_; have GE2 := n4_; have NB1_2 := n5_; have NB2_1 := n6_; clear n0_ n1_ n2_ n3_ n4_ n5_ n6_; clear hb hbox hg) | ((with_reducible refine gate_dst (N := 4) rfl ?_); refine box_event ?hg (N := 4) ?hd (cs := #[.int .u32 0, .int .u32 0]) (t := 24) ?hr ?_; (case hd => rfl); (case hg => rfl); (case hr => first | (go_simp; done) | (go_simp; rfl)); intro gb3 hg w10 hbox hb; have n0_ := Aside0.mk (blk_below (g := gb1) (o := .cells #[.int .u32 a0_0, .int .u32 a0_1] 24 (0, 0)) (by (with_reducible repeat (first | refine blk_drewN ?_ _ | refine blk_drew ?_ | refine blk_alloc ?_ _)); exact BK1.out) hb); have n1_ := Aside0.mk (blk_below (g := gb2) (o := .cells #[.int .u32 a1_0, .int .u32 a1_1] 24 (0, 0)) (by (with_reducible repeat (first | refine blk_drewN ?_ _ | refine blk_drew ?_ | refine blk_alloc ?_ _)); exact BK2.out) hb); have n2_ := Aside0.mk (below_step (by repeat (first | (with_reducible first | exact HB.out | apply below_alloc | apply pw_below_drewN | apply below_drew1 | refine below_set ?_ GE1.out | refine below_set ?_ GE2.out) | exact HB.out)) hb); have n3_ := Aside0.mk (hbox); have n4_ := Aside0.mk ((by rw [hg]; exact (below_size (by repeat (first | (with_reducible first | exact HB.out | apply below_alloc | apply pw_below_drewN | apply below_drew1 | refine below_set ?_ GE1.out | refine below_set ?_ GE2.out) | exact HB.out))) : w.heap.size ≤ gb3)); have n5_ := Aside0.mk ((by rw [hg]; exact (below_size (by repeat (first | (with_reducible first | exact HB.out | apply below_alloc | apply pw_below_drewN | apply below_drew1 | refine below_set ?_ GE1.out | refine below_set ?_ GE2.out) | exact HB.out))) : w.heap.size ≤ gb3)); have n6_ := Aside0.mk ((by rw [hg]; exact Nat.ne_of_lt (blk_lt (g := gb1) (o := .cells #[.int .u32 a0_0, .int .u32 a0_1] 24 (0, 0)) (by (with_reducible repeat (first | refine blk_drewN ?_ _ | refine blk_drew ?_ | refine blk_alloc ?_ _)); exact BK1.out)) : gb1 ≠ gb3)); have n7_ := Aside0.mk ((by rw [hg]; exact Nat.ne_of_gt (blk_lt (g := gb1) (o := .cells #[.int .u32 a0_0, .int .u32 a0_1] 24 (0, 0)) (by (with_reducible repeat (first | refine blk_drewN ?_ _ | refine blk_drew ?_ | refine blk_alloc ?_ _)); exact BK1.out)) : gb3 ≠ gb1)); have n8_ := Aside0.mk ((by rw [hg]; exact Nat.ne_of_lt (blk_lt (g := gb2) (o := .cells #[.int .u32 a1_0, .int .u32 a1_1] 24 (0, 0)) (by (with_reducible repeat (first | refine blk_drewN ?_ _ | refine blk_drew ?_ | refine blk_alloc ?_ _)); exact BK2.out)) : gb2 ≠ gb3)); have n9_ := Aside0.mk ((by rw [hg]; exact Nat.ne_of_gt (blk_lt (g := gb2) (o := .cells #[.int .u32 a1_0, .int .u32 a1_1] 24 (0, 0)) (by (with_reducible repeat (first | refine blk_drewN ?_ _ | refine blk_drew ?_ | refine blk_alloc ?_ _)); exact BK2.out)) : gb3 ≠ gb2)); clear BK1; clear BK2; clear HB; have BK1 := n0_; have BK2 := n1_; have HB := n2_; have BK3 := n3_; have GW3 := n4_; have GE3 := n5_; have NB1_3 := n6_; have NB3_1 := n7_; have NB2_3 := n8_; have NB3_2 := n9_; clear n0_ n1_ n2_ n3_ n4_ n5_ n6_ n7_ n8_ n9_; clear hb hbox hg; have hnb11 := NB1_2.out; have hnc11 := NB2_1.out; have hnb12 := NB1_3.out; have hnc12 := NB3_1.out; have hcz13_0 : w10.cell? ⟨gb1, 0, none⟩ = some (.int .u32 a0_0) := (blk_cell BK1.out 0).trans rfl; have hcz13_1 : w10.cell? ⟨gb1, 1, none⟩ = some (.int .u32 a0_1) := (blk_cell BK1.out 1).trans rfl; have hfz13_0 := blk_frozen BK1.out 0; have hfz13_1 := blk_frozen BK1.out 1; have hnb14 := NB2_3.out; have hnc14 := NB3_2.out; have hcz15_0 : w10.cell? ⟨gb2, 0, none⟩ = some (.int .u32 a1_0) := (blk_cell BK2.out 0).trans rfl; have hcz15_1 : w10.cell? ⟨gb2, 1, none⟩ = some (.int .u32 a1_1) := (blk_cell BK2.out 1).trans rfl; have hfz15_0 := blk_frozen BK2.out 0; have hfz15_1 := blk_frozen BK2.out 1; have hcz16_0 : w10.cell? ⟨gb3, 0, none⟩ = some (.int .u32 0) := (blk_cell BK3.out 0).trans rfl; have hcz16_1 : w10.cell? ⟨gb3, 1, none⟩ = some (.int .u32 0) := (blk_cell BK3.out 1).trans rfl; have hfz16_0 := blk_frozen BK3.out 0; have hfz16_1 := blk_frozen BK3.out 1)); try go_wp2_with (first | ((with_reducible refine gate_dst (N := 2) rfl ?_); refine box_event ?hg (N := 2) ?hd (cs := #[.int .u32 a0_0, .int .u32 a0_1]) (t := 24) ?hr ?_; (case hd => rfl); (case hg => rfl); (case hr => first | (go_simp; done) | (go_simp; rfl)); intro gb1 hg w8 hbox hb; have n0_ := Aside0.mk (below_step (by repeat (first | (with_reducible first | exact HB.out | apply below_alloc | apply pw_below_drewN | apply below_drew1) | exact HB.out)) hb); have n1_ := Aside0.mk (hbox); have n2_ := Aside0.mk ((by rw [hg]; exact (below_size (by repeat (first | (with_reducible first | exact HB.out | apply below_alloc | apply pw_below_drewN | apply below_drew1) | exact HB.out))) : w.heap.size ≤ gb1)); have n3_ := Aside0.mk ((by rw [hg]; exact (below_size (by repeat (first | (with_reducible first | exact HB.out | apply below_alloc | apply pw_below_drewN | apply below_drew1) | exact HB.out))) : w.heap.size ≤ gb1)); clear HB; have HB := n0_; have BK1 := n1_; have GW1 := n2_; have GE1 := n3_; clear n0_ n1_ n2_ n3_; clear hb hbox hg) | ((with_reducible refine gate_dst (N := 3) rfl ?_); refine box_event ?hg (N := 3) ?hd (cs := #[.int .u32 a1_0, .int .u32 a1_1]) (t := 24) ?hr ?_; (case hd => rfl); (case hg => rfl); (case hr => first | (go_simp; done) | (go_simp; rfl)); intro gb2 hg w9 hbox hb; have n0_ := Aside0.mk (blk_below (g := gb1) (o := .cells #[.int .u32 a0_0, .int .u32 a0_1] 24 (0, 0)) (by (with_reducible repeat (first | refine blk_drewN ?_ _ | refine blk_drew ?_ | refine blk_alloc ?_ _)); exact BK1.out) hb); have n1_ := Aside0.mk (below_step (by repeat (first | (with_reducible first | exact HB.out | apply below_alloc | apply pw_below_drewN | apply below_drew1 | refine below_set ?_ GE1.out) | exact HB.out)) hb); have n2_ := Aside0.mk (hbox); have n3_ := Aside0.mk ((by rw [hg]; exact (below_size (by repeat (first | (with_reducible first | exact HB.out | apply below_alloc | apply pw_below_drewN | apply below_drew1 | refine below_set ?_ GE1.out) | exact HB.out))) : w.heap.size ≤ gb2)); have n4_ := Aside0.mk ((by rw [hg]; exact (below_size (by repeat (first | (with_reducible first | exact HB.out | apply below_alloc | apply pw_below_drewN | apply below_drew1 | refine below_set ?_ GE1.out) | exact HB.out))) : w.heap.size ≤ gb2)); have n5_ := Aside0.mk ((by rw [hg]; exact Nat.ne_of_lt (blk_lt (g := gb1) (o := .cells #[.int .u32 a0_0, .int .u32 a0_1] 24 (0, 0)) (by (with_reducible repeat (first | refine blk_drewN ?_ _ | refine blk_drew ?_ | refine blk_alloc ?_ _)); exact BK1.out)) : gb1 ≠ gb2)); have n6_ := Aside0.mk ((by rw [hg]; exact Nat.ne_of_gt (blk_lt (g := gb1) (o := .cells #[.int .u32 a0_0, .int .u32 a0_1] 24 (0, 0)) (by (with_reducible repeat (first | refine blk_drewN ?_ _ | refine blk_drew ?_ | refine blk_alloc ?_ _)); exact BK1.out)) : gb2 ≠ gb1)); clear BK1; clear HB; have BK1 := n0_; have HB := n1_; have BK2 := n2_; have GW2 := n3_; have GE2 := n4_; have NB1_2 := n5_; have NB2_1 := n6_; clear n0_ n1_ n2_ n3_ n4_ n5_ n6_; clear hb hbox hg) | ((with_reducible refine gate_dst (N := 4) rfl ?_); refine box_event ?hg (N := 4) ?hd (cs := #[.int .u32 0, .int .u32 0]) (t := 24) ?hr ?_; (case hd => rfl); (case hg => rfl); (case hr => first | (go_simp; done) | (go_simp; rfl)); intro gb3 hg w10 hbox hb; have n0_ := Aside0.mk (blk_below (g := gb1) (o := .cells #[.int .u32 a0_0, .int .u32 a0_1] 24 (0, 0)) (by (with_reducible repeat (first | refine blk_drewN ?_ _ | refine blk_drew ?_ | refine blk_alloc ?_ _)); exact BK1.out) hb); have n1_ := Aside0.mk (blk_below (g := gb2) (o := .cells #[.int .u32 a1_0, .int .u32 a1_1] 24 (0, 0)) (by (with_reducible repeat (first | refine blk_drewN ?_ _ | refine blk_drew ?_ | refine blk_alloc ?_ _)); exact BK2.out) hb); have n2_ := Aside0.mk (below_step (by repeat (first | (with_reducible first | exact HB.out | apply below_alloc | apply pw_below_drewN | apply below_drew1 | refine below_set ?_ GE1.out | refine below_set ?_ GE2.out) | exact HB.out)) hb); have n3_ := Aside0.mk (hbox); have n4_ := Aside0.mk ((by rw [hg]; exact (below_size (by repeat (first | (with_reducible first | exact HB.out | apply below_alloc | apply pw_below_drewN | apply below_drew1 | refine below_set ?_ GE1.out | refine below_set ?_ GE2.out) | exact HB.out))) : w.heap.size ≤ gb3)); have n5_ := Aside0.mk ((by rw [hg]; exact (below_size (by repeat (first | (with_reducible first | exact HB.out | apply below_alloc | apply pw_below_drewN | apply below_drew1 | refine below_set ?_ GE1.out | refine below_set ?_ GE2.out) | exact HB.out))) : w.heap.size ≤ gb3)); have n6_ := Aside0.mk ((by rw [hg]; exact Nat.ne_of_lt (blk_lt (g := gb1) (o := .cells #[.int .u32 a0_0, .int .u32 a0_1] 24 (0, 0)) (by (with_reducible repeat (first | refine blk_drewN ?_ _ | refine blk_drew ?_ | refine blk_alloc ?_ _)); exact BK1.out)) : gb1 ≠ gb3)); have n7_ := Aside0.mk ((by rw [hg]; exact Nat.ne_of_gt (blk_lt (g := gb1) (o := .cells #[.int .u32 a0_0, .int .u32 a0_1] 24 (0, 0)) (by (with_reducible repeat (first | refine blk_drewN ?_ _ | refine blk_drew ?_ | refine blk_alloc ?_ _)); exact BK1.out)) : gb3 ≠ gb1)); have n8_ := Aside0.mk ((by rw [hg]; exact Nat.ne_of_lt (blk_lt (g := gb2) (o := .cells #[.int .u32 a1_0, .int .u32 a1_1] 24 (0, 0)) (by (with_reducible repeat (first | refine blk_drewN ?_ _ | refine blk_drew ?_ | refine blk_alloc ?_ _)); exact BK2.out)) : gb2 ≠ gb3)); have n9_ := Aside0.mk ((by rw [hg]; exact Nat.ne_of_gt (blk_lt (g := gb2) (o := .cells #[.int .u32 a1_0, .int .u32 a1_1] 24 (0, 0)) (by (with_reducible repeat (first | refine blk_drewN ?_ _ | refine blk_drew ?_ | refine blk_alloc ?_ _)); exact BK2.out)) : gb3 ≠ gb2)); clear BK1; clear BK2; clear HB; have BK1 := n0_; have BK2 := n1_; have HB := n2_; have BK3 := n3_; have GW3 := n4_; have GE3 := n5_; have NB1_3 := n6_; have NB3_1 := n7_; have NB2_3 := n8_; have NB3_2 := n9_; clear n0_ n1_ n2_ n3_ n4_ n5_ n6_ n7_ n8_ n9_; clear hb hbox hg; have hnb11 := NB1_2.out; have hnc11 := NB2_1.out; have hnb12 := NB1_3.out; have hnc12 := NB3_1.out; have hcz13_0 : w10.cell? ⟨gb1, 0, none⟩ = some (.int .u32 a0_0) := (blk_cell BK1.out 0).trans rfl; have hcz13_1 : w10.cell? ⟨gb1, 1, none⟩ = some (.int .u32 a0_1) := (blk_cell BK1.out 1).trans rfl; have hfz13_0 := blk_frozen BK1.out 0; have hfz13_1 := blk_frozen BK1.out 1; have hnb14 := NB2_3.out; have hnc14 := NB3_2.out; have hcz15_0 : w10.cell? ⟨gb2, 0, none⟩ = some (.int .u32 a1_0) := (blk_cell BK2.out 0).trans rfl; have hcz15_1 : w10.cell? ⟨gb2, 1, none⟩ = some (.int .u32 a1_1) := (blk_cell BK2.out 1).trans rfl; have hfz15_0 := blk_frozen BK2.out 0; have hfz15_1 := blk_frozen BK2.out 1; have hcz16_0 : w10.cell? ⟨gb3, 0, none⟩ = some (.int .u32 0) := (blk_cell BK3.out 0).trans rfl; have hcz16_1 : w10.cell? ⟨gb3, 1, none⟩ = some (.int .u32 0) := (blk_cell BK3.out 1).trans rfl; have hfz16_0 := blk_frozen BK3.out 0; have hfz16_1 := blk_frozen BK3.out 1)))
  refine bodyPost_ret (results_ct rfl _ _ gb3 24 #[.int .u32 0, .int .u32 0] (0, 0) _ rfl (by (with_reducible repeat (first | refine blk_drewN ?_ _ | refine blk_drew ?_ | refine blk_alloc ?_ _)); refine blk_put (cs := #[.int .u32 0, .int .u32 0]) ?_ 1 _ rfl; (with_reducible repeat (first | refine blk_drewN ?_ _ | refine blk_drew ?_ | refine blk_alloc ?_ _)); refine blk_put (cs := #[.int .u32 0, .int .u32 0]) ?_ 0 _ rfl; (with_reducible repeat (first | refine blk_drewN ?_ _ | refine blk_drew ?_ | refine blk_alloc ?_ _)); exact BK3.out) Try.underlying24 rfl (by kernel_rfl)) rfl ?_
  exact ⟨by first | rfl | (simp [errW_none, errW_some] <;> rfl) | (simp only [← hji3, ← hji4, ← hji5, ← hji6]; first | rfl | (simp [errW_none, errW_some] <;> rfl)) | (simp [*, errW_none, errW_some] <;> rfl), by repeat (first | (with_reducible first | exact HB.out | apply below_alloc | apply pw_below_drewN | apply below_drew1 | refine below_set ?_ GE1.out | refine below_set ?_ GE2.out | refine below_set ?_ GE3.out) | exact HB.out)⟩
 ·
  rw [if_neg c7] at H
  have c7b0 : decide ((ji5) < (ji3)) = false := decide_eq_false c7
  clear c7
  by_cases c17 : (ji4) > (ji6)
  ·
   rw [if_pos c17] at H
   have c17b0 : decide ((ji6) < (ji4)) = true := decide_eq_true c17
   clear c17
   simp only [Option.some.injEq, Prod.mk.injEq] at H
   obtain ⟨rfl, rfl, rfl⟩ := H
   go_enter Try.func10, Try.ntmps10
   go_wp2_with (first | ((with_reducible refine gate_dst (N := 2) rfl ?_); refine box_event ?hg (N := 2) ?hd (cs := #[.int .u32 a0_0, .int .u32 a0_1]) (t := 24) ?hr ?_; (case hd => rfl); (case hg => rfl); (case hr => first | (go_simp; done) | (go_simp; rfl)); intro gb1 hg w18 hbox hb; have n0_ := Aside0.mk (below_step (by repeat (first | (with_reducible first | exact HB.out | apply below_alloc | apply pw_below_drewN | apply below_drew1) | exact HB.out)) hb); have n1_ := Aside0.mk (hbox); have n2_ := Aside0.mk ((by rw [hg]; exact (below_size (by repeat (first | (with_reducible first | exact HB.out | apply below_alloc | apply pw_below_drewN | apply below_drew1) | exact HB.out))) : w.heap.size ≤ gb1)); have n3_ := Aside0.mk ((by rw [hg]; exact (below_size (by repeat (first | (with_reducible first | exact HB.out | apply below_alloc | apply pw_below_drewN | apply below_drew1) | exact HB.out))) : w.heap.size ≤ gb1)); clear HB; have HB := n0_; have BK1 := n1_; have GW1 := n2_; have GE1 := n3_; clear n0_ n1_ n2_ n3_; clear hb hbox hg) | ((with_reducible refine gate_dst (N := 3) rfl ?_); refine box_event ?hg (N := 3) ?hd (cs := #[.int .u32 a1_0, .int .u32 a1_1]) (t := 24) ?hr ?_; (case hd => rfl); (case hg => rfl); (case hr => first | (go_simp; done) | (go_simp; rfl)); intro gb2 hg w19 hbox hb; have n0_ := Aside0.mk (blk_below (g := gb1) (o := .cells #[.int .u32 a0_0, .int .u32 a0_1] 24 (0, 0)) (by (with_reducible repeat (first | refine blk_drewN ?_ _ | refine blk_drew ?_ | refine blk_alloc ?_ _)); exact BK1.out) hb); have n1_ := Aside0.mk (below_step (by repeat (first | (with_reducible first | exact HB.out | apply below_alloc | apply pw_below_drewN | apply below_drew1 | refine below_set ?_ GE1.out) | exact HB.out)) hb); have n2_ := Aside0.mk (hbox); have n3_ := Aside0.mk ((by rw [hg]; exact (below_size (by repeat (first | (with_reducible first | exact HB.out | apply below_alloc | apply pw_below_drewN | apply below_drew1 | refine below_set ?_ GE1.out) | exact HB.out))) : w.heap.size ≤ gb2)); have n4_ := Aside0.mk ((by rw [hg]; exact (below_size (by repeat (first | (with_reducible first | exact HB.out | apply below_alloc | apply pw_below_drewN | apply below_drew1 | refine below_set ?_ GE1.out) | exact HB.out))) : w.heap.size ≤ gb2)); have n5_ := Aside0.mk ((by rw [hg]; exact Nat.ne_of_lt (blk_lt (g := gb1) (o := .cells #[.int .u32 a0_0, .int .u32 a0_1] 24 (0, 0)) (by (with_reducible repeat (first | refine blk_drewN ?_ _ | refine blk_drew ?_ | refine blk_alloc ?_ _)); exact BK1.out)) : gb1 ≠ gb2)); have n6_ := Aside0.mk ((by rw [hg]; exact Nat.ne_of_gt (blk_lt (g := gb1) (o := .cells #[.int .u32 a0_0, .int .u32 a0_1] 24 (0, 0)) (by (with_reducible repeat (first | refine blk_drewN ?_ _ | refine blk_drew ?_ | refine blk_alloc ?_ _)); exact BK1.out)) : gb2 ≠ gb1)); clear BK1; clear HB; have BK1 := n0_; have HB := n1_; have BK2 := n2_; have GW2 := n3_; have GE2 := n4_; have NB1_2 := n5_; have NB2_1 := n6_; clear n0_ n1_ n2_ n3_ n4_ n5_ n6_; clear hb hbox hg) | ((with_reducible refine gate_dst (N := 4) rfl ?_); refine box_event ?hg (N := 4) ?hd (cs := #[.int .u32 0, .int .u32 0]) (t := 24) ?hr ?_; (case hd => rfl); (case hg => rfl); (case hr => first | (go_simp; done) | (go_simp; rfl)); intro gb3 hg w20 hbox hb; have n0_ := Aside0.mk (blk_below (g := gb1) (o := .cells #[.int .u32 a0_0, .int .u32 a0_1] 24 (0, 0)) (by (with_reducible repeat (first | refine blk_drewN ?_ _ | refine blk_drew ?_ | refine blk_alloc ?_ _)); exact BK1.out) hb); have n1_ := Aside0.mk (blk_below (g := gb2) (o := .cells #[.int .u32 a1_0, .int .u32 a1_1] 24 (0, 0)) (by (with_reducible repeat (first | refine blk_drewN ?_ _ | refine blk_drew ?_ | refine blk_alloc ?_ _)); exact BK2.out) hb); have n2_ := Aside0.mk (below_step (by repeat (first | (with_reducible first | exact HB.out | apply below_alloc | apply pw_below_drewN | apply below_drew1 | refine below_set ?_ GE1.out | refine below_set ?_ GE2.out) | exact HB.out)) hb); have n3_ := Aside0.mk (hbox); have n4_ := Aside0.mk ((by rw [hg]; exact (below_size (by repeat (first | (with_reducible first | exact HB.out | apply below_alloc | apply pw_below_drewN | apply below_drew1 | refine below_set ?_ GE1.out | refine below_set ?_ GE2.out) | exact HB.out))) : w.heap.size ≤ gb3)); have n5_ := Aside0.mk ((by rw [hg]; exact (below_size (by repeat (first | (with_reducible first | exact HB.out | apply below_alloc | apply pw_below_drewN | apply below_drew1 | refine below_set ?_ GE1.out | refine below_set ?_ GE2.out) | exact HB.out))) : w.heap.size ≤ gb3)); have n6_ := Aside0.mk ((by rw [hg]; exact Nat.ne_of_lt (blk_lt (g := gb1) (o := .cells #[.int .u32 a0_0, .int .u32 a0_1] 24 (0, 0)) (by (with_reducible repeat (first | refine blk_drewN ?_ _ | refine blk_drew ?_ | refine blk_alloc ?_ _)); exact BK1.out)) : gb1 ≠ gb3)); have n7_ := Aside0.mk ((by rw [hg]; exact Nat.ne_of_gt (blk_lt (g := gb1) (o := .cells #[.int .u32 a0_0, .int .u32 a0_1] 24 (0, 0)) (by (with_reducible repeat (first | refine blk_drewN ?_ _ | refine blk_drew ?_ | refine blk_alloc ?_ _)); exact BK1.out)) : gb3 ≠ gb1)); have n8_ := Aside0.mk ((by rw [hg]; exact Nat.ne_of_lt (blk_lt (g := gb2) (o := .cells #[.int .u32 a1_0, .int .u32 a1_1] 24 (0, 0)) (by (with_reducible repeat (first | refine blk_drewN ?_ _ | refine blk_drew ?_ | refine blk_alloc ?_ _)); exact BK2.out)) : gb2 ≠ gb3)); have n9_ := Aside0.mk ((by rw [hg]; exact Nat.ne_of_gt (blk_lt (g := gb2) (o := .cells #[.int .u32 a1_0, .int .u32 a1_1] 24 (0, 0)) (by (with_reducible repeat (first | refine blk_drewN ?_ _ | refine blk_drew ?_ | refine blk_alloc ?_ _)); exact BK2.out)) : gb3 ≠ gb2)); clear BK1; clear BK2; clear HB; have BK1 := n0_; have BK2 := n1_; have HB := n2_; have BK3 := n3_; have GW3 := n4_; have GE3 := n5_; have NB1_3 := n6_; have NB3_1 := n7_; have NB2_3 := n8_; have NB3_2 := n9_; clear n0_ n1_ n2_ n3_ n4_ n5_ n6_ n7_ n8_ n9_; clear hb hbox hg; have hnb21 := NB1_2.out; have hnc21 := NB2_1.out; have hnb22 := NB1_3.out; have hnc22 := NB3_1.out; have hcz23_0 : w20.cell? ⟨gb1, 0, none⟩ = some (.int .u32 a0_0) := (blk_cell BK1.out 0).trans rfl; have hcz23_1 : w20.cell? ⟨gb1, 1, none⟩ = some (.int .u32 a0_1) := (blk_cell BK1.out 1).trans rfl; have hfz23_0 := blk_frozen BK1.out 0; have hfz23_1 := blk_frozen BK1.out 1; have hnb24 := NB2_3.out; have hnc24 := NB3_2.out; have hcz25_0 : w20.cell? ⟨gb2, 0, none⟩ = some (.int .u32 a1_0) := (blk_cell BK2.out 0).trans rfl; have hcz25_1 : w20.cell? ⟨gb2, 1, none⟩ = some (.int .u32 a1_1) := (blk_cell BK2.out 1).trans rfl; have hfz25_0 := blk_frozen BK2.out 0; have hfz25_1 := blk_frozen BK2.out 1; have hcz26_0 : w20.cell? ⟨gb3, 0, none⟩ = some (.int .u32 0) := (blk_cell BK3.out 0).trans rfl; have hcz26_1 : w20.cell? ⟨gb3, 1, none⟩ = some (.int .u32 0) := (blk_cell BK3.out 1).trans rfl; have hfz26_0 := blk_frozen BK3.out 0; have hfz26_1 := blk_frozen BK3.out 1))
   repeat (go_quiet (first | ((with_reducible refine gate_dst (N := 2) rfl ?_); refine box_event ?hg (N := 2) ?hd (cs := #[.int .u32 a0_0, .int .u32 a0_1]) (t := 24) ?hr ?_; (case hd => rfl); (case hg => rfl); (case hr => first | (go_simp; done) | (go_simp; rfl)); intro gb1 hg w18 hbox hb; have n0_ := Aside0.mk (below_step (by repeat (first | (with_reducible first | exact HB.out | apply below_alloc | apply pw_below_drewN | apply below_drew1) | exact HB.out)) hb); have n1_ := Aside0.mk (hbox); have n2_ := Aside0.mk ((by rw [hg]; exact (below_size (by repeat (first | (with_reducible first | exact HB.out | apply below_alloc | apply pw_below_drewN | apply below_drew1) | exact HB.out))) : w.heap.size ≤ gb1)); have n3_ := Aside0.mk ((by rw [hg]; exact (below_size (by repeat (first | (with_reducible first | exact HB.out | apply below_alloc | apply pw_below_drewN | apply below_drew1) | exact HB.out))) : w.heap.size ≤ gb1)); clear HB; have HB := n0_; have BK1 := n1_; have GW1 := n2_; have GE1 := n3_; clear n0_ n1_ n2_ n3_; clear hb hbox hg) | ((with_reducible refine gate_dst (N := 3) rfl ?_); refine box_event ?hg (N := 3) ?hd (cs := #[.int .u32 a1_0, .int .u32 a1_1]) (t := 24) ?hr ?_; (case hd => rfl); (case hg => rfl); (case hr => first | (go_simp; done) | (go_simp; rfl)); intro gb2 hg w19 hbox hb; have n0_ := Aside0.mk (blk_below (g := gb1) (o := .cells #[.int .u32 a0_0, .int .u32 a0_1] 24 (0, 0)) (by (with_reducible repeat (first | refine blk_drewN ?_ _ | refine blk_drew ?_ | refine blk_alloc ?_ _)); exact BK1.out) hb); have n1_ := Aside0.mk (below_step (by repeat (first | (with_reducible first | exact HB.out | apply below_alloc | apply pw_below_drewN | apply below_drew1 | refine below_set ?_ GE1.out) | exact HB.out)) hb); have n2_ := Aside0.mk (hbox); have n3_ := Aside0.mk ((by rw [hg]; exact (below_size (by repeat (first | (with_reducible first | exact HB.out | apply below_alloc | apply pw_below_drewN | apply below_drew1 | refine below_set ?_ GE1.out) | exact HB.out))) : w.heap.size ≤ gb2)); have n4_ := Aside0.mk ((by rw [hg]; exact (below_size (by repeat (first | (with_reducible first | exact HB.out | apply below_alloc | apply pw_below_drewN | apply below_drew1 | refine below_set ?_ GE1.out) | exact HB.out))) : w.heap.size ≤ gb2)); have n5_ := Aside0.mk ((by rw [hg]; exact Nat.ne_of_lt (blk_lt (g := gb1) (o := .cells #[.int .u32 a0_0, .int .u32 a0_1] 24 (0, 0)) (by (with_reducible repeat (first | refine blk_drewN ?_ _ | refine blk_drew ?_ | refine blk_alloc ?_ _)); exact BK1.out)) : gb1 ≠ gb2)); have n6_ := Aside0.mk ((by rw [hg]; exact Nat.ne_of_gt (blk_lt (g := gb1) (o := .cells #[.int .u32 a0_0, .int .u32 a0_1] 24 (0, 0)) (by (with_reducible repeat (first | refine blk_drewN ?_ _ | refine blk_drew ?_ | refine blk_alloc ?_ _)); exact BK1.out)) : gb2 ≠ gb1)); clear BK1; clear HB; have BK1 := n0_; have HB := n1_; have BK2 := n2_; have GW2 := n3_; have GE2 := n4_; have NB1_2 := n5_; have NB2_1 := n6_; clear n0_ n1_ n2_ n3_ n4_ n5_ n6_; clear hb hbox hg) | ((with_reducible refine gate_dst (N := 4) rfl ?_); refine box_event ?hg (N := 4) ?hd (cs := #[.int .u32 0, .int .u32 0]) (t := 24) ?hr ?_; (case hd => rfl); (case hg => rfl); (case hr => first | (go_simp; done) | (go_simp; rfl)); intro gb3 hg w20 hbox hb; have n0_ := Aside0.mk (blk_below (g := gb1) (o := .cells #[.int .u32 a0_0, .int .u32 a0_1] 24 (0, 0)) (by (with_reducible repeat (first | refine blk_drewN ?_ _ | refine blk_drew ?_ | refine blk_alloc ?_ _)); exact BK1.out) hb); have n1_ := Aside0.mk (blk_below (g := gb2) (o := .cells #[.int .u32 a1_0, .int .u32 a1_1] 24 (0, 0)) (by (with_reducible repeat (first | refine blk_drewN ?_ _ | refine blk_drew ?_ | refine blk_alloc ?_ _)); exact BK2.out) hb); have n2_ := Aside0.mk (below_step (by repeat (first | (with_reducible first | exact HB.out | apply below_alloc | apply pw_below_drewN | apply below_drew1 | refine below_set ?_ GE1.out | refine below_set ?_ GE2.out) | exact HB.out)) hb); have n3_ := Aside0.mk (hbox); have n4_ := Aside0.mk ((by rw [hg]; exact (below_size (by repeat (first | (with_reducible first | exact HB.out | apply below_alloc | apply pw_below_drewN | apply below_drew1 | refine below_set ?_ GE1.out | refine below_set ?_ GE2.out) | exact HB.out))) : w.heap.size ≤ gb3)); have n5_ := Aside0.mk ((by rw [hg]; exact (below_size (by repeat (first | (with_reducible first | exact HB.out | apply below_alloc | apply pw_below_drewN | apply below_drew1 | refine below_set ?_ GE1.out | refine below_set ?_ GE2.out) | exact HB.out))) : w.heap.size ≤ gb3)); have n6_ := Aside0.mk ((by rw [hg]; exact Nat.ne_of_lt (blk_lt (g := gb1) (o := .cells #[.int .u32 a0_0, .int .u32 a0_1] 24 (0, 0)) (by (with_reducible repeat (first | refine blk_drewN ?_ _ | refine blk_drew ?_ | refine blk_alloc ?_ _)); exact BK1.out)) : gb1 ≠ gb3)); have n7_ := Aside0.mk ((by rw [hg]; exact Nat.ne_of_gt (blk_lt (g := gb1) (o := .cells #[.int .u32 a0_0, .int .u32 a0_1] 24 (0, 0)) (by (with_reducible repeat (first | refine blk_drewN ?_ _ | refine blk_drew ?_ | refine blk_alloc ?_ _)); exact BK1.out)) : gb3 ≠ gb1)); have n8_ := Aside0.mk ((by rw [hg]; exact Nat.ne_of_lt (blk_lt (g := gb2) (o := .cells #[.int .u32 a1_0, .int .u32 a1_1] 24 (0, 0)) (by (with_reducible repeat (first | refine blk_drewN ?_ _ | refine blk_drew ?_ | refine blk_alloc ?_ _)); exact BK2.out)) : gb2 ≠ gb3)); have n9_ := Aside0.mk ((by rw [hg]; exact Nat.ne_of_gt (blk_lt (g := gb2) (o := .cells #[.int .u32 a1_0, .int .u32 a1_1] 24 (0, 0)) (by (with_reducible repeat (first | refine blk_drewN ?_ _ | refine blk_drew ?_ | refine blk_alloc ?_ _)); exact BK2.out)) : gb3 ≠ gb2)); clear BK1; clear BK2; clear HB; have BK1 := n0_; have BK2 := n1_; have HB := n2_; have BK3 := n3_; have GW3 := n4_; have GE3 := n5_; have NB1_3 := n6_; have NB3_1 := n7_; have NB2_3 := n8_; have NB3_2 := n9_; clear n0_ n1_ n2_ n3_ n4_ n5_ n6_ n7_ n8_ n9_; clear hb hbox hg; have hnb21 := NB1_2.out; have hnc21 := NB2_1.out; have hnb22 := NB1_3.out; have hnc22 := NB3_1.out; have hcz23_0 : w20.cell? ⟨gb1, 0, none⟩ = some (.int .u32 a0_0) := (blk_cell BK1.out 0).trans rfl; have hcz23_1 : w20.cell? ⟨gb1, 1, none⟩ = some (.int .u32 a0_1) := (blk_cell BK1.out 1).trans rfl; have hfz23_0 := blk_frozen BK1.out 0; have hfz23_1 := blk_frozen BK1.out 1; have hnb24 := NB2_3.out; have hnc24 := NB3_2.out; have hcz25_0 : w20.cell? ⟨gb2, 0, none⟩ = some (.int .u32 a1_0) := (blk_cell BK2.out 0).trans rfl; have hcz25_1 : w20.cell? ⟨gb2, 1, none⟩ = some (.int .u32 a1_1) := (blk_cell BK2.out 1).trans rfl; have hfz25_0 := blk_frozen BK2.out 0; have hfz25_1 := blk_frozen BK2.out 1; have hcz26_0 : w20.cell? ⟨gb3, 0, none⟩ = some (.int .u32 0) := (blk_cell BK3.out 0).trans rfl; have hcz26_1 : w20.cell? ⟨gb3, 1, none⟩ = some (.int .u32 0) := (blk_cell BK3.out 1).trans rfl; have hfz26_0 := blk_frozen BK3.out 0; have hfz26_1 := blk_frozen BK3.out 1)); try go_wp2_with (first | ((with_reducible refine gate_dst (N := 2) rfl ?_); refine box_event ?hg (N := 2) ?hd (cs := #[.int .u32 a0_0, .int .u32 a0_1]) (t := 24) ?hr ?_; (case hd => rfl); (case hg => rfl); (case hr => first | (go_simp; done) | (go_simp; rfl)); intro gb1 hg w18 hbox hb; have n0_ := Aside0.mk (below_step (by repeat (first | (with_reducible first | exact HB.out | apply below_alloc | apply pw_below_drewN | apply below_drew1) | exact HB.out)) hb); have n1_ := Aside0.mk (hbox); have n2_ := Aside0.mk ((by rw [hg]; exact (below_size (by repeat (first | (with_reducible first | exact HB.out | apply below_alloc | apply pw_below_drewN | apply below_drew1) | exact HB.out))) : w.heap.size ≤ gb1)); have n3_ := Aside0.mk ((by rw [hg]; exact (below_size (by repeat (first | (with_reducible first | exact HB.out | apply below_alloc | apply pw_below_drewN | apply below_drew1) | exact HB.out))) : w.heap.size ≤ gb1)); clear HB; have HB := n0_; have BK1 := n1_; have GW1 := n2_; have GE1 := n3_; clear n0_ n1_ n2_ n3_; clear hb hbox hg) | ((with_reducible refine gate_dst (N := 3) rfl ?_); refine box_event ?hg (N := 3) ?hd (cs := #[.int .u32 a1_0, .int .u32 a1_1]) (t := 24) ?hr ?_; (case hd => rfl); (case hg => rfl); (case hr => first | (go_simp; done) | (go_simp; rfl)); intro gb2 hg w19 hbox hb; have n0_ := Aside0.mk (blk_below (g := gb1) (o := .cells #[.int .u32 a0_0, .int .u32 a0_1] 24 (0, 0)) (by (with_reducible repeat (first | refine blk_drewN ?_ _ | refine blk_drew ?_ | refine blk_alloc ?_ _)); exact BK1.out) hb); have n1_ := Aside0.mk (below_step (by repeat (first | (with_reducible first | exact HB.out | apply below_alloc | apply pw_below_drewN | apply below_drew1 | refine below_set ?_ GE1.out) | exact HB.out)) hb); have n2_ := Aside0.mk (hbox); have n3_ := Aside0.mk ((by rw [hg]; exact (below_size (by repeat (first | (with_reducible first | exact HB.out | apply below_alloc | apply pw_below_drewN | apply below_drew1 | refine below_set ?_ GE1.out) | exact HB.out))) : w.heap.size ≤ gb2)); have n4_ := Aside0.mk ((by rw [hg]; exact (below_size (by repeat (first | (with_reducible first | exact HB.out | apply below_alloc | apply pw_below_drewN | apply below_drew1 | refine below_set ?_ GE1.out) | exact HB.out))) : w.heap.size ≤ gb2)); have n5_ := Aside0.mk ((by rw [hg]; exact Nat.ne_of_lt (blk_lt (g := gb1) (o := .cells #[.int .u32 a0_0, .int .u32 a0_1] 24 (0, 0)) (by (with_reducible repeat (first | refine blk_drewN ?_ _ | refine blk_drew ?_ | refine blk_alloc ?_ _)); exact BK1.out)) : gb1 ≠ gb2)); have n6_ := Aside0.mk ((by rw [hg]; exact Nat.ne_of_gt (blk_lt (g := gb1) (o := .cells #[.int .u32 a0_0, .int .u32 a0_1] 24 (0, 0)) (by (with_reducible repeat (first | refine blk_drewN ?_ _ | refine blk_drew ?_ | refine blk_alloc ?_ _)); exact BK1.out)) : gb2 ≠ gb1)); clear BK1; clear HB; have BK1 := n0_; have HB := n1_; have BK2 := n2_; have GW2 := n3_; have GE2 := n4_; have NB1_2 := n5_; have NB2_1 := n6_; clear n0_ n1_ n2_ n3_ n4_ n5_ n6_; clear hb hbox hg) | ((with_reducible refine gate_dst (N := 4) rfl ?_); refine box_event ?hg (N := 4) ?hd (cs := #[.int .u32 0, .int .u32 0]) (t := 24) ?hr ?_; (case hd => rfl); (case hg => rfl); (case hr => first | (go_simp; done) | (go_simp; rfl)); intro gb3 hg w20 hbox hb; have n0_ := Aside0.mk (blk_below (g := gb1) (o := .cells #[.int .u32 a0_0, .int .u32 a0_1] 24 (0, 0)) (by (with_reducible repeat (first | refine blk_drewN ?_ _ | refine blk_drew ?_ | refine blk_alloc ?_ _)); exact BK1.out) hb); have n1_ := Aside0.mk (blk_below (g := gb2) (o := .cells #[.int .u32 a1_0, .int .u32 a1_1] 24 (0, 0)) (by (with_reducible repeat (first | refine blk_drewN ?_ _ | refine blk_drew ?_ | refine blk_alloc ?_ _)); exact BK2.out) hb); have n2_ := Aside0.mk (below_step (by repeat (first | (with_reducible first | exact HB.out | apply below_alloc | apply pw_below_drewN | apply below_drew1 | refine below_set ?_ GE1.out | refine below_set ?_ GE2.out) | exact HB.out)) hb); have n3_ := Aside0.mk (hbox); have n4_ := Aside0.mk ((by rw [hg]; exact (below_size (by repeat (first | (with_reducible first | exact HB.out | apply below_alloc | apply pw_below_drewN | apply below_drew1 | refine below_set ?_ GE1.out | refine below_set ?_ GE2.out) | exact HB.out))) : w.heap.size ≤ gb3)); have n5_ := Aside0.mk ((by rw [hg]; exact (below_size (by repeat (first | (with_reducible first | exact HB.out | apply below_alloc | apply pw_below_drewN | apply below_drew1 | refine below_set ?_ GE1.out | refine below_set ?_ GE2.out) | exact HB.out))) : w.heap.size ≤ gb3)); have n6_ := Aside0.mk ((by rw [hg]; exact Nat.ne_of_lt (blk_lt (g := gb1) (o := .cells #[.int .u32 a0_0, .int .u32 a0_1] 24 (0, 0)) (by (with_reducible repeat (first | refine blk_drewN ?_ _ | refine blk_drew ?_ | refine blk_alloc ?_ _)); exact BK1.out)) : gb1 ≠ gb3)); have n7_ := Aside0.mk ((by rw [hg]; exact Nat.ne_of_gt (blk_lt (g := gb1) (o := .cells #[.int .u32 a0_0, .int .u32 a0_1] 24 (0, 0)) (by (with_reducible repeat (first | refine blk_drewN ?_ _ | refine blk_drew ?_ | refine blk_alloc ?_ _)); exact BK1.out)) : gb3 ≠ gb1)); have n8_ := Aside0.mk ((by rw [hg]; exact Nat.ne_of_lt (blk_lt (g := gb2) (o := .cells #[.int .u32 a1_0, .int .u32 a1_1] 24 (0, 0)) (by (with_reducible repeat (first | refine blk_drewN ?_ _ | refine blk_drew ?_ | refine blk_alloc ?_ _)); exact BK2.out)) : gb2 ≠ gb3)); have n9_ := Aside0.mk ((by rw [hg]; exact Nat.ne_of_gt (blk_lt (g := gb2) (o := .cells #[.int .u32 a1_0, .int .u32 a1_1] 24 (0, 0)) (by (with_reducible repeat (first | refine blk_drewN ?_ _ | refine blk_drew ?_ | refine blk_alloc ?_ _)); exact BK2.out)) : gb3 ≠ gb2)); clear BK1; clear BK2; clear HB; have BK1 := n0_; have BK2 := n1_; have HB := n2_; have BK3 := n3_; have GW3 := n4_; have GE3 := n5_; have NB1_3 := n6_; have NB3_1 := n7_; have NB2_3 := n8_; have NB3_2 := n9_; clear n0_ n1_ n2_ n3_ n4_ n5_ n6_ n7_ n8_ n9_; clear hb hbox hg; have hnb21 := NB1_2.out; have hnc21 := NB2_1.out; have hnb22 := NB1_3.out; have hnc22 := NB3_1.out; have hcz23_0 : w20.cell? ⟨gb1, 0, none⟩ = some (.int .u32 a0_0) := (blk_cell BK1.out 0).trans rfl; have hcz23_1 : w20.cell? ⟨gb1, 1, none⟩ = some (.int .u32 a0_1) := (blk_cell BK1.out 1).trans rfl; have hfz23_0 := blk_frozen BK1.out 0; have hfz23_1 := blk_frozen BK1.out 1; have hnb24 := NB2_3.out; have hnc24 := NB3_2.out; have hcz25_0 : w20.cell? ⟨gb2, 0, none⟩ = some (.int .u32 a1_0) := (blk_cell BK2.out 0).trans rfl; have hcz25_1 : w20.cell? ⟨gb2, 1, none⟩ = some (.int .u32 a1_1) := (blk_cell BK2.out 1).trans rfl; have hfz25_0 := blk_frozen BK2.out 0; have hfz25_1 := blk_frozen BK2.out 1; have hcz26_0 : w20.cell? ⟨gb3, 0, none⟩ = some (.int .u32 0) := (blk_cell BK3.out 0).trans rfl; have hcz26_1 : w20.cell? ⟨gb3, 1, none⟩ = some (.int .u32 0) := (blk_cell BK3.out 1).trans rfl; have hfz26_0 := blk_frozen BK3.out 0; have hfz26_1 := blk_frozen BK3.out 1)))
   refine bodyPost_ret (results_ct rfl _ _ gb3 24 #[.int .u32 0, .int .u32 0] (0, 0) _ rfl (by (with_reducible repeat (first | refine blk_drewN ?_ _ | refine blk_drew ?_ | refine blk_alloc ?_ _)); refine blk_put (cs := #[.int .u32 0, .int .u32 0]) ?_ 1 _ rfl; (with_reducible repeat (first | refine blk_drewN ?_ _ | refine blk_drew ?_ | refine blk_alloc ?_ _)); refine blk_put (cs := #[.int .u32 0, .int .u32 0]) ?_ 0 _ rfl; (with_reducible repeat (first | refine blk_drewN ?_ _ | refine blk_drew ?_ | refine blk_alloc ?_ _)); exact BK3.out) Try.underlying24 rfl (by kernel_rfl)) rfl ?_
   exact ⟨by first | rfl | (simp [errW_none, errW_some] <;> rfl) | (simp only [← hji3, ← hji4, ← hji5, ← hji6]; first | rfl | (simp [errW_none, errW_some] <;> rfl)) | (simp [*, errW_none, errW_some] <;> rfl), by repeat (first | (with_reducible first | exact HB.out | apply below_alloc | apply pw_below_drewN | apply below_drew1 | refine below_set ?_ GE1.out | refine below_set ?_ GE2.out | refine below_set ?_ GE3.out) | exact HB.out)⟩
  ·
   rw [if_neg c17] at H
   have c17b0 : decide ((ji6) < (ji4)) = false := decide_eq_false c17
   clear c17
   simp only [Option.some.injEq, Prod.mk.injEq] at H
   obtain ⟨rfl, rfl, rfl⟩ := H
   go_enter Try.func10, Try.ntmps10
   go_wp2_with (first | ((with_reducible refine gate_dst (N := 2) rfl ?_); refine box_event ?hg (N := 2) ?hd (cs := #[.int .u32 a0_0, .int .u32 a0_1]) (t := 24) ?hr ?_; (case hd => rfl); (case hg => rfl); (case hr => first | (go_simp; done) | (go_simp; rfl)); intro gb1 hg w27 hbox hb; have n0_ := Aside0.mk (below_step (by repeat (first | (with_reducible first | exact HB.out | apply below_alloc | apply pw_below_drewN | apply below_drew1) | exact HB.out)) hb); have n1_ := Aside0.mk (hbox); have n2_ := Aside0.mk ((by rw [hg]; exact (below_size (by repeat (first | (with_reducible first | exact HB.out | apply below_alloc | apply pw_below_drewN | apply below_drew1) | exact HB.out))) : w.heap.size ≤ gb1)); have n3_ := Aside0.mk ((by rw [hg]; exact (below_size (by repeat (first | (with_reducible first | exact HB.out | apply below_alloc | apply pw_below_drewN | apply below_drew1) | exact HB.out))) : w.heap.size ≤ gb1)); clear HB; have HB := n0_; have BK1 := n1_; have GW1 := n2_; have GE1 := n3_; clear n0_ n1_ n2_ n3_; clear hb hbox hg) | ((with_reducible refine gate_dst (N := 3) rfl ?_); refine box_event ?hg (N := 3) ?hd (cs := #[.int .u32 a1_0, .int .u32 a1_1]) (t := 24) ?hr ?_; (case hd => rfl); (case hg => rfl); (case hr => first | (go_simp; done) | (go_simp; rfl)); intro gb2 hg w28 hbox hb; have n0_ := Aside0.mk (blk_below (g := gb1) (o := .cells #[.int .u32 a0_0, .int .u32 a0_1] 24 (0, 0)) (by (with_reducible repeat (first | refine blk_drewN ?_ _ | refine blk_drew ?_ | refine blk_alloc ?_ _)); exact BK1.out) hb); have n1_ := Aside0.mk (below_step (by repeat (first | (with_reducible first | exact HB.out | apply below_alloc | apply pw_below_drewN | apply below_drew1 | refine below_set ?_ GE1.out) | exact HB.out)) hb); have n2_ := Aside0.mk (hbox); have n3_ := Aside0.mk ((by rw [hg]; exact (below_size (by repeat (first | (with_reducible first | exact HB.out | apply below_alloc | apply pw_below_drewN | apply below_drew1 | refine below_set ?_ GE1.out) | exact HB.out))) : w.heap.size ≤ gb2)); have n4_ := Aside0.mk ((by rw [hg]; exact (below_size (by repeat (first | (with_reducible first | exact HB.out | apply below_alloc | apply pw_below_drewN | apply below_drew1 | refine below_set ?_ GE1.out) | exact HB.out))) : w.heap.size ≤ gb2)); have n5_ := Aside0.mk ((by rw [hg]; exact Nat.ne_of_lt (blk_lt (g := gb1) (o := .cells #[.int .u32 a0_0, .int .u32 a0_1] 24 (0, 0)) (by (with_reducible repeat (first | refine blk_drewN ?_ _ | refine blk_drew ?_ | refine blk_alloc ?_ _)); exact BK1.out)) : gb1 ≠ gb2)); have n6_ := Aside0.mk ((by rw [hg]; exact Nat.ne_of_gt (blk_lt (g := gb1) (o := .cells #[.int .u32 a0_0, .int .u32 a0_1] 24 (0, 0)) (by (with_reducible repeat (first | refine blk_drewN ?_ _ | refine blk_drew ?_ | refine blk_alloc ?_ _)); exact BK1.out)) : gb2 ≠ gb1)); clear BK1; clear HB; have BK1 := n0_; have HB := n1_; have BK2 := n2_; have GW2 := n3_; have GE2 := n4_; have NB1_2 := n5_; have NB2_1 := n6_; clear n0_ n1_ n2_ n3_ n4_ n5_ n6_; clear hb hbox hg) | ((with_reducible refine gate_dst (N := 4) rfl ?_); refine box_event ?hg (N := 4) ?hd (cs := #[.int .u32 0, .int .u32 0]) (t := 24) ?hr ?_; (case hd => rfl); (case hg => rfl); (case hr => first | (go_simp; done) | (go_simp; rfl)); intro gb3 hg w29 hbox hb; have n0_ := Aside0.mk (blk_below (g := gb1) (o := .cells #[.int .u32 a0_0, .int .u32 a0_1] 24 (0, 0)) (by (with_reducible repeat (first | refine blk_drewN ?_ _ | refine blk_drew ?_ | refine blk_alloc ?_ _)); exact BK1.out) hb); have n1_ := Aside0.mk (blk_below (g := gb2) (o := .cells #[.int .u32 a1_0, .int .u32 a1_1] 24 (0, 0)) (by (with_reducible repeat (first | refine blk_drewN ?_ _ | refine blk_drew ?_ | refine blk_alloc ?_ _)); exact BK2.out) hb); have n2_ := Aside0.mk (below_step (by repeat (first | (with_reducible first | exact HB.out | apply below_alloc | apply pw_below_drewN | apply below_drew1 | refine below_set ?_ GE1.out | refine below_set ?_ GE2.out) | exact HB.out)) hb); have n3_ := Aside0.mk (hbox); have n4_ := Aside0.mk ((by rw [hg]; exact (below_size (by repeat (first | (with_reducible first | exact HB.out | apply below_alloc | apply pw_below_drewN | apply below_drew1 | refine below_set ?_ GE1.out | refine below_set ?_ GE2.out) | exact HB.out))) : w.heap.size ≤ gb3)); have n5_ := Aside0.mk ((by rw [hg]; exact (below_size (by repeat (first | (with_reducible first | exact HB.out | apply below_alloc | apply pw_below_drewN | apply below_drew1 | refine below_set ?_ GE1.out | refine below_set ?_ GE2.out) | exact HB.out))) : w.heap.size ≤ gb3)); have n6_ := Aside0.mk ((by rw [hg]; exact Nat.ne_of_lt (blk_lt (g := gb1) (o := .cells #[.int .u32 a0_0, .int .u32 a0_1] 24 (0, 0)) (by (with_reducible repeat (first | refine blk_drewN ?_ _ | refine blk_drew ?_ | refine blk_alloc ?_ _)); exact BK1.out)) : gb1 ≠ gb3)); have n7_ := Aside0.mk ((by rw [hg]; exact Nat.ne_of_gt (blk_lt (g := gb1) (o := .cells #[.int .u32 a0_0, .int .u32 a0_1] 24 (0, 0)) (by (with_reducible repeat (first | refine blk_drewN ?_ _ | refine blk_drew ?_ | refine blk_alloc ?_ _)); exact BK1.out)) : gb3 ≠ gb1)); have n8_ := Aside0.mk ((by rw [hg]; exact Nat.ne_of_lt (blk_lt (g := gb2) (o := .cells #[.int .u32 a1_0, .int .u32 a1_1] 24 (0, 0)) (by (with_reducible repeat (first | refine blk_drewN ?_ _ | refine blk_drew ?_ | refine blk_alloc ?_ _)); exact BK2.out)) : gb2 ≠ gb3)); have n9_ := Aside0.mk ((by rw [hg]; exact Nat.ne_of_gt (blk_lt (g := gb2) (o := .cells #[.int .u32 a1_0, .int .u32 a1_1] 24 (0, 0)) (by (with_reducible repeat (first | refine blk_drewN ?_ _ | refine blk_drew ?_ | refine blk_alloc ?_ _)); exact BK2.out)) : gb3 ≠ gb2)); clear BK1; clear BK2; clear HB; have BK1 := n0_; have BK2 := n1_; have HB := n2_; have BK3 := n3_; have GW3 := n4_; have GE3 := n5_; have NB1_3 := n6_; have NB3_1 := n7_; have NB2_3 := n8_; have NB3_2 := n9_; clear n0_ n1_ n2_ n3_ n4_ n5_ n6_ n7_ n8_ n9_; clear hb hbox hg; have hnb30 := NB1_2.out; have hnc30 := NB2_1.out; have hnb31 := NB1_3.out; have hnc31 := NB3_1.out; have hcz32_0 : w29.cell? ⟨gb1, 0, none⟩ = some (.int .u32 a0_0) := (blk_cell BK1.out 0).trans rfl; have hcz32_1 : w29.cell? ⟨gb1, 1, none⟩ = some (.int .u32 a0_1) := (blk_cell BK1.out 1).trans rfl; have hfz32_0 := blk_frozen BK1.out 0; have hfz32_1 := blk_frozen BK1.out 1; have hnb33 := NB2_3.out; have hnc33 := NB3_2.out; have hcz34_0 : w29.cell? ⟨gb2, 0, none⟩ = some (.int .u32 a1_0) := (blk_cell BK2.out 0).trans rfl; have hcz34_1 : w29.cell? ⟨gb2, 1, none⟩ = some (.int .u32 a1_1) := (blk_cell BK2.out 1).trans rfl; have hfz34_0 := blk_frozen BK2.out 0; have hfz34_1 := blk_frozen BK2.out 1; have hcz35_0 : w29.cell? ⟨gb3, 0, none⟩ = some (.int .u32 0) := (blk_cell BK3.out 0).trans rfl; have hcz35_1 : w29.cell? ⟨gb3, 1, none⟩ = some (.int .u32 0) := (blk_cell BK3.out 1).trans rfl; have hfz35_0 := blk_frozen BK3.out 0; have hfz35_1 := blk_frozen BK3.out 1))
   repeat (go_quiet (first | ((with_reducible refine gate_dst (N := 2) rfl ?_); refine box_event ?hg (N := 2) ?hd (cs := #[.int .u32 a0_0, .int .u32 a0_1]) (t := 24) ?hr ?_; (case hd => rfl); (case hg => rfl); (case hr => first | (go_simp; done) | (go_simp; rfl)); intro gb1 hg w27 hbox hb; have n0_ := Aside0.mk (below_step (by repeat (first | (with_reducible first | exact HB.out | apply below_alloc | apply pw_below_drewN | apply below_drew1) | exact HB.out)) hb); have n1_ := Aside0.mk (hbox); have n2_ := Aside0.mk ((by rw [hg]; exact (below_size (by repeat (first | (with_reducible first | exact HB.out | apply below_alloc | apply pw_below_drewN | apply below_drew1) | exact HB.out))) : w.heap.size ≤ gb1)); have n3_ := Aside0.mk ((by rw [hg]; exact (below_size (by repeat (first | (with_reducible first | exact HB.out | apply below_alloc | apply pw_below_drewN | apply below_drew1) | exact HB.out))) : w.heap.size ≤ gb1)); clear HB; have HB := n0_; have BK1 := n1_; have GW1 := n2_; have GE1 := n3_; clear n0_ n1_ n2_ n3_; clear hb hbox hg) | ((with_reducible refine gate_dst (N := 3) rfl ?_); refine box_event ?hg (N := 3) ?hd (cs := #[.int .u32 a1_0, .int .u32 a1_1]) (t := 24) ?hr ?_; (case hd => rfl); (case hg => rfl); (case hr => first | (go_simp; done) | (go_simp; rfl)); intro gb2 hg w28 hbox hb; have n0_ := Aside0.mk (blk_below (g := gb1) (o := .cells #[.int .u32 a0_0, .int .u32 a0_1] 24 (0, 0)) (by (with_reducible repeat (first | refine blk_drewN ?_ _ | refine blk_drew ?_ | refine blk_alloc ?_ _)); exact BK1.out) hb); have n1_ := Aside0.mk (below_step (by repeat (first | (with_reducible first | exact HB.out | apply below_alloc | apply pw_below_drewN | apply below_drew1 | refine below_set ?_ GE1.out) | exact HB.out)) hb); have n2_ := Aside0.mk (hbox); have n3_ := Aside0.mk ((by rw [hg]; exact (below_size (by repeat (first | (with_reducible first | exact HB.out | apply below_alloc | apply pw_below_drewN | apply below_drew1 | refine below_set ?_ GE1.out) | exact HB.out))) : w.heap.size ≤ gb2)); have n4_ := Aside0.mk ((by rw [hg]; exact (below_size (by repeat (first | (with_reducible first | exact HB.out | apply below_alloc | apply pw_below_drewN | apply below_drew1 | refine below_set ?_ GE1.out) | exact HB.out))) : w.heap.size ≤ gb2)); have n5_ := Aside0.mk ((by rw [hg]; exact Nat.ne_of_lt (blk_lt (g := gb1) (o := .cells #[.int .u32 a0_0, .int .u32 a0_1] 24 (0, 0)) (by (with_reducible repeat (first | refine blk_drewN ?_ _ | refine blk_drew ?_ | refine blk_alloc ?_ _)); exact BK1.out)) : gb1 ≠ gb2)); have n6_ := Aside0.mk ((by rw [hg]; exact Nat.ne_of_gt (blk_lt (g := gb1) (o := .cells #[.int .u32 a0_0, .int .u32 a0_1] 24 (0, 0)) (by (with_reducible repeat (first | refine blk_drewN ?_ _ | refine blk_drew ?_ | refine blk_alloc ?_ _)); exact BK1.out)) : gb2 ≠ gb1)); clear BK1; clear HB; have BK1 := n0_; have HB := n1_; have BK2 := n2_; have GW2 := n3_; have GE2 := n4_; have NB1_2 := n5_; have NB2_1 := n6_; clear n0_ n1_ n2_ n3_ n4_ n5_ n6_; clear hb hbox hg) | ((with_reducible refine gate_dst (N := 4) rfl ?_); refine box_event ?hg (N := 4) ?hd (cs := #[.int .u32 0, .int .u32 0]) (t := 24) ?hr ?_; (case hd => rfl); (case hg => rfl); (case hr => first | (go_simp; done) | (go_simp; rfl)); intro gb3 hg w29 hbox hb; have n0_ := Aside0.mk (blk_below (g := gb1) (o := .cells #[.int .u32 a0_0, .int .u32 a0_1] 24 (0, 0)) (by (with_reducible repeat (first | refine blk_drewN ?_ _ | refine blk_drew ?_ | refine blk_alloc ?_ _)); exact BK1.out) hb); have n1_ := Aside0.mk (blk_below (g := gb2) (o := .cells #[.int .u32 a1_0, .int .u32 a1_1] 24 (0, 0)) (by (with_reducible repeat (first | refine blk_drewN ?_ _ | refine blk_drew ?_ | refine blk_alloc ?_ _)); exact BK2.out) hb); have n2_ := Aside0.mk (below_step (by repeat (first | (with_reducible first | exact HB.out | apply below_alloc | apply pw_below_drewN | apply below_drew1 | refine below_set ?_ GE1.out | refine below_set ?_ GE2.out) | exact HB.out)) hb); have n3_ := Aside0.mk (hbox); have n4_ := Aside0.mk ((by rw [hg]; exact (below_size (by repeat (first | (with_reducible first | exact HB.out | apply below_alloc | apply pw_below_drewN | apply below_drew1 | refine below_set ?_ GE1.out | refine below_set ?_ GE2.out) | exact HB.out))) : w.heap.size ≤ gb3)); have n5_ := Aside0.mk ((by rw [hg]; exact (below_size (by repeat (first | (with_reducible first | exact HB.out | apply below_alloc | apply pw_below_drewN | apply below_drew1 | refine below_set ?_ GE1.out | refine below_set ?_ GE2.out) | exact HB.out))) : w.heap.size ≤ gb3)); have n6_ := Aside0.mk ((by rw [hg]; exact Nat.ne_of_lt (blk_lt (g := gb1) (o := .cells #[.int .u32 a0_0, .int .u32 a0_1] 24 (0, 0)) (by (with_reducible repeat (first | refine blk_drewN ?_ _ | refine blk_drew ?_ | refine blk_alloc ?_ _)); exact BK1.out)) : gb1 ≠ gb3)); have n7_ := Aside0.mk ((by rw [hg]; exact Nat.ne_of_gt (blk_lt (g := gb1) (o := .cells #[.int .u32 a0_0, .int .u32 a0_1] 24 (0, 0)) (by (with_reducible repeat (first | refine blk_drewN ?_ _ | refine blk_drew ?_ | refine blk_alloc ?_ _)); exact BK1.out)) : gb3 ≠ gb1)); have n8_ := Aside0.mk ((by rw [hg]; exact Nat.ne_of_lt (blk_lt (g := gb2) (o := .cells #[.int .u32 a1_0, .int .u32 a1_1] 24 (0, 0)) (by (with_reducible repeat (first | refine blk_drewN ?_ _ | refine blk_drew ?_ | refine blk_alloc ?_ _)); exact BK2.out)) : gb2 ≠ gb3)); have n9_ := Aside0.mk ((by rw [hg]; exact Nat.ne_of_gt (blk_lt (g := gb2) (o := .cells #[.int .u32 a1_0, .int .u32 a1_1] 24 (0, 0)) (by (with_reducible repeat (first | refine blk_drewN ?_ _ | refine blk_drew ?_ | refine blk_alloc ?_ _)); exact BK2.out)) : gb3 ≠ gb2)); clear BK1; clear BK2; clear HB; have BK1 := n0_; have BK2 := n1_; have HB := n2_; have BK3 := n3_; have GW3 := n4_; have GE3 := n5_; have NB1_3 := n6_; have NB3_1 := n7_; have NB2_3 := n8_; have NB3_2 := n9_; clear n0_ n1_ n2_ n3_ n4_ n5_ n6_ n7_ n8_ n9_; clear hb hbox hg; have hnb30 := NB1_2.out; have hnc30 := NB2_1.out; have hnb31 := NB1_3.out; have hnc31 := NB3_1.out; have hcz32_0 : w29.cell? ⟨gb1, 0, none⟩ = some (.int .u32 a0_0) := (blk_cell BK1.out 0).trans rfl; have hcz32_1 : w29.cell? ⟨gb1, 1, none⟩ = some (.int .u32 a0_1) := (blk_cell BK1.out 1).trans rfl; have hfz32_0 := blk_frozen BK1.out 0; have hfz32_1 := blk_frozen BK1.out 1; have hnb33 := NB2_3.out; have hnc33 := NB3_2.out; have hcz34_0 : w29.cell? ⟨gb2, 0, none⟩ = some (.int .u32 a1_0) := (blk_cell BK2.out 0).trans rfl; have hcz34_1 : w29.cell? ⟨gb2, 1, none⟩ = some (.int .u32 a1_1) := (blk_cell BK2.out 1).trans rfl; have hfz34_0 := blk_frozen BK2.out 0; have hfz34_1 := blk_frozen BK2.out 1; have hcz35_0 : w29.cell? ⟨gb3, 0, none⟩ = some (.int .u32 0) := (blk_cell BK3.out 0).trans rfl; have hcz35_1 : w29.cell? ⟨gb3, 1, none⟩ = some (.int .u32 0) := (blk_cell BK3.out 1).trans rfl; have hfz35_0 := blk_frozen BK3.out 0; have hfz35_1 := blk_frozen BK3.out 1)); try go_wp2_with (first | ((with_reducible refine gate_dst (N := 2) rfl ?_); refine box_event ?hg (N := 2) ?hd (cs := #[.int .u32 a0_0, .int .u32 a0_1]) (t := 24) ?hr ?_; (case hd => rfl); (case hg => rfl); (case hr => first | (go_simp; done) | (go_simp; rfl)); intro gb1 hg w27 hbox hb; have n0_ := Aside0.mk (below_step (by repeat (first | (with_reducible first | exact HB.out | apply below_alloc | apply pw_below_drewN | apply below_drew1) | exact HB.out)) hb); have n1_ := Aside0.mk (hbox); have n2_ := Aside0.mk ((by rw [hg]; exact (below_size (by repeat (first | (with_reducible first | exact HB.out | apply below_alloc | apply pw_below_drewN | apply below_drew1) | exact HB.out))) : w.heap.size ≤ gb1)); have n3_ := Aside0.mk ((by rw [hg]; exact (below_size (by repeat (first | (with_reducible first | exact HB.out | apply below_alloc | apply pw_below_drewN | apply below_drew1) | exact HB.out))) : w.heap.size ≤ gb1)); clear HB; have HB := n0_; have BK1 := n1_; have GW1 := n2_; have GE1 := n3_; clear n0_ n1_ n2_ n3_; clear hb hbox hg) | ((with_reducible refine gate_dst (N := 3) rfl ?_); refine box_event ?hg (N := 3) ?hd (cs := #[.int .u32 a1_0, .int .u32 a1_1]) (t := 24) ?hr ?_; (case hd => rfl); (case hg => rfl); (case hr => first | (go_simp; done) | (go_simp; rfl)); intro gb2 hg w28 hbox hb; have n0_ := Aside0.mk (blk_below (g := gb1) (o := .cells #[.int .u32 a0_0, .int .u32 a0_1] 24 (0, 0)) (by (with_reducible repeat (first | refine blk_drewN ?_ _ | refine blk_drew ?_ | refine blk_alloc ?_ _)); exact BK1.out) hb); have n1_ := Aside0.mk (below_step (by repeat (first | (with_reducible first | exact HB.out | apply below_alloc | apply pw_below_drewN | apply below_drew1 | refine below_set ?_ GE1.out) | exact HB.out)) hb); have n2_ := Aside0.mk (hbox); have n3_ := Aside0.mk ((by rw [hg]; exact (below_size (by repeat (first | (with_reducible first | exact HB.out | apply below_alloc | apply pw_below_drewN | apply below_drew1 | refine below_set ?_ GE1.out) | exact HB.out))) : w.heap.size ≤ gb2)); have n4_ := Aside0.mk ((by rw [hg]; exact (below_size (by repeat (first | (with_reducible first | exact HB.out | apply below_alloc | apply pw_below_drewN | apply below_drew1 | refine below_set ?_ GE1.out) | exact HB.out))) : w.heap.size ≤ gb2)); have n5_ := Aside0.mk ((by rw [hg]; exact Nat.ne_of_lt (blk_lt (g := gb1) (o := .cells #[.int .u32 a0_0, .int .u32 a0_1] 24 (0, 0)) (by (with_reducible repeat (first | refine blk_drewN ?_ _ | refine blk_drew ?_ | refine blk_alloc ?_ _)); exact BK1.out)) : gb1 ≠ gb2)); have n6_ := Aside0.mk ((by rw [hg]; exact Nat.ne_of_gt (blk_lt (g := gb1) (o := .cells #[.int .u32 a0_0, .int .u32 a0_1] 24 (0, 0)) (by (with_reducible repeat (first | refine blk_drewN ?_ _ | refine blk_drew ?_ | refine blk_alloc ?_ _)); exact BK1.out)) : gb2 ≠ gb1)); clear BK1; clear HB; have BK1 := n0_; have HB := n1_; have BK2 := n2_; have GW2 := n3_; have GE2 := n4_; have NB1_2 := n5_; have NB2_1 := n6_; clear n0_ n1_ n2_ n3_ n4_ n5_ n6_; clear hb hbox hg) | ((with_reducible refine gate_dst (N := 4) rfl ?_); refine box_event ?hg (N := 4) ?hd (cs := #[.int .u32 0, .int .u32 0]) (t := 24) ?hr ?_; (case hd => rfl); (case hg => rfl); (case hr => first | (go_simp; done) | (go_simp; rfl)); intro gb3 hg w29 hbox hb; have n0_ := Aside0.mk (blk_below (g := gb1) (o := .cells #[.int .u32 a0_0, .int .u32 a0_1] 24 (0, 0)) (by (with_reducible repeat (first | refine blk_drewN ?_ _ | refine blk_drew ?_ | refine blk_alloc ?_ _)); exact BK1.out) hb); have n1_ := Aside0.mk (blk_below (g := gb2) (o := .cells #[.int .u32 a1_0, .int .u32 a1_1] 24 (0, 0)) (by (with_reducible repeat (first | refine blk_drewN ?_ _ | refine blk_drew ?_ | refine blk_alloc ?_ _)); exact BK2.out) hb); have n2_ := Aside0.mk (below_step (by repeat (first | (with_reducible first | exact HB.out | apply below_alloc | apply pw_below_drewN | apply below_drew1 | refine below_set ?_ GE1.out | refine below_set ?_ GE2.out) | exact HB.out)) hb); have n3_ := Aside0.mk (hbox); have n4_ := Aside0.mk ((by rw [hg]; exact (below_size (by repeat (first | (with_reducible first | exact HB.out | apply below_alloc | apply pw_below_drewN | apply below_drew1 | refine below_set ?_ GE1.out | refine below_set ?_ GE2.out) | exact HB.out))) : w.heap.size ≤ gb3)); have n5_ := Aside0.mk ((by rw [hg]; exact (below_size (by repeat (first | (with_reducible first | exact HB.out | apply below_alloc | apply pw_below_drewN | apply below_drew1 | refine below_set ?_ GE1.out | refine below_set ?_ GE2.out) | exact HB.out))) : w.heap.size ≤ gb3)); have n6_ := Aside0.mk ((by rw [hg]; exact Nat.ne_of_lt (blk_lt (g := gb1) (o := .cells #[.int .u32 a0_0, .int .u32 a0_1] 24 (0, 0)) (by (with_reducible repeat (first | refine blk_drewN ?_ _ | refine blk_drew ?_ | refine blk_alloc ?_ _)); exact BK1.out)) : gb1 ≠ gb3)); have n7_ := Aside0.mk ((by rw [hg]; exact Nat.ne_of_gt (blk_lt (g := gb1) (o := .cells #[.int .u32 a0_0, .int .u32 a0_1] 24 (0, 0)) (by (with_reducible repeat (first | refine blk_drewN ?_ _ | refine blk_drew ?_ | refine blk_alloc ?_ _)); exact BK1.out)) : gb3 ≠ gb1)); have n8_ := Aside0.mk ((by rw [hg]; exact Nat.ne_of_lt (blk_lt (g := gb2) (o := .cells #[.int .u32 a1_0, .int .u32 a1_1] 24 (0, 0)) (by (with_reducible repeat (first | refine blk_drewN ?_ _ | refine blk_drew ?_ | refine blk_alloc ?_ _)); exact BK2.out)) : gb2 ≠ gb3)); have n9_ := Aside0.mk ((by rw [hg]; exact Nat.ne_of_gt (blk_lt (g := gb2) (o := .cells #[.int .u32 a1_0, .int .u32 a1_1] 24 (0, 0)) (by (with_reducible repeat (first | refine blk_drewN ?_ _ | refine blk_drew ?_ | refine blk_alloc ?_ _)); exact BK2.out)) : gb3 ≠ gb2)); clear BK1; clear BK2; clear HB; have BK1 := n0_; have BK2 := n1_; have HB := n2_; have BK3 := n3_; have GW3 := n4_; have GE3 := n5_; have NB1_3 := n6_; have NB3_1 := n7_; have NB2_3 := n8_; have NB3_2 := n9_; clear n0_ n1_ n2_ n3_ n4_ n5_ n6_ n7_ n8_ n9_; clear hb hbox hg; have hnb30 := NB1_2.out; have hnc30 := NB2_1.out; have hnb31 := NB1_3.out; have hnc31 := NB3_1.out; have hcz32_0 : w29.cell? ⟨gb1, 0, none⟩ = some (.int .u32 a0_0) := (blk_cell BK1.out 0).trans rfl; have hcz32_1 : w29.cell? ⟨gb1, 1, none⟩ = some (.int .u32 a0_1) := (blk_cell BK1.out 1).trans rfl; have hfz32_0 := blk_frozen BK1.out 0; have hfz32_1 := blk_frozen BK1.out 1; have hnb33 := NB2_3.out; have hnc33 := NB3_2.out; have hcz34_0 : w29.cell? ⟨gb2, 0, none⟩ = some (.int .u32 a1_0) := (blk_cell BK2.out 0).trans rfl; have hcz34_1 : w29.cell? ⟨gb2, 1, none⟩ = some (.int .u32 a1_1) := (blk_cell BK2.out 1).trans rfl; have hfz34_0 := blk_frozen BK2.out 0; have hfz34_1 := blk_frozen BK2.out 1; have hcz35_0 : w29.cell? ⟨gb3, 0, none⟩ = some (.int .u32 0) := (blk_cell BK3.out 0).trans rfl; have hcz35_1 : w29.cell? ⟨gb3, 1, none⟩ = some (.int .u32 0) := (blk_cell BK3.out 1).trans rfl; have hfz35_0 := blk_frozen BK3.out 0; have hfz35_1 := blk_frozen BK3.out 1)))
   refine bodyPost_ret (results_ct rfl _ _ gb3 24 #[.int .u32 (((65536 * (ji3)) + (ji4)) % 4294967296), .int .u32 (((65536 * (ji5)) + (ji6)) % 4294967296)] (0, 0) _ rfl (by (with_reducible repeat (first | refine blk_drewN ?_ _ | refine blk_drew ?_ | refine blk_alloc ?_ _)); refine blk_put (cs := #[.int .u32 (((65536 * (ji3)) + (ji4)) % 4294967296), .int .u32 0]) ?_ 1 _ rfl; (with_reducible repeat (first | refine blk_drewN ?_ _ | refine blk_drew ?_ | refine blk_alloc ?_ _)); refine blk_put (cs := #[.int .u32 0, .int .u32 0]) ?_ 0 _ rfl; (with_reducible repeat (first | refine blk_drewN ?_ _ | refine blk_drew ?_ | refine blk_alloc ?_ _)); exact BK3.out) Try.underlying24 rfl (by kernel_rfl)) rfl ?_
   exact ⟨by first | rfl | (simp [errW_none, errW_some] <;> rfl) | (simp only [← hji3, ← hji4, ← hji5, ← hji6]; first | rfl | (simp [errW_none, errW_some] <;> rfl)) | (simp [*, errW_none, errW_some] <;> rfl), by repeat (first | (with_reducible first | exact HB.out | apply below_alloc | apply pw_below_drewN | apply below_drew1 | refine below_set ?_ GE1.out | refine below_set ?_ GE2.out | refine below_set ?_ GE3.out) | exact HB.out)⟩

end Go.Proofs.Ytdkbfcogmlghfaa.P

namespace Go.Proofs.Ytdkbfcogmlghfaa.P
open Go.RowKit Go.Proofs.YtdkbfcogmlghfaaW.PrintWords Go.Proofs.YtdkbfcogmlghfaaW.PrintMore
set_option linter.unusedVariables false
set_option linter.unusedSimpArgs false
theorem mx_nat (a b : Nat) : mx (a : Int) (b : Int) = ((max a b : Nat) : Int) := by unfold mx; split <;> omega
theorem mn_nat (a b : Nat) : mn (a : Int) (b : Int) = ((min a b : Nat) : Int) := by unfold mn; split <;> omega
theorem u32_nat {a : Int} (h : (Lit.int .u32 a).wf = true) : ∃ n : Nat, a = (n : Int) ∧ n < 4294967296 := by
  simp [Lit.wf, IntKind.min, IntKind.max, IntKind.signed, IntKind.bits] at h
  exact ⟨a.toNat, by omega, by omega⟩
theorem u32B_of (n : Nat) (h : n < 4294967296) : u32B (n : Int) = true := by unfold u32B; simp; omega
theorem in_f (lo hi c : Nat) (h1 : lo < 4294967296) (h2 : hi < 4294967296) (h3 : c < 4294967296) : plane_In.f (lo : Int) (hi : Int) (c : Int) = some (inB lo hi c) := by
  unfold plane_In.f
  rw [u32B_of lo h1, u32B_of hi h2, u32B_of c h3, if_pos (by rfl)]
  simp only [Int.toNat_natCast]
theorem meet_f (al ah bl bh : Nat) (h1 : al < 4294967296) (h2 : ah < 4294967296) (h3 : bl < 4294967296) (h4 : bh < 4294967296) : plane_Meet.f (al : Int) (ah : Int) (bl : Int) (bh : Int) = some (meetN al ah bl bh) := by
  unfold plane_Meet.f
  rw [u32B_of al h1, u32B_of ah h2, u32B_of bl h3, u32B_of bh h4, if_pos (by rfl)]
  simp only [Int.toNat_natCast]
theorem refMeet_f (al ah bl bh : Nat) (h1 : al < 4294967296) (h2 : ah < 4294967296) (h3 : bl < 4294967296) (h4 : bh < 4294967296) : q6z.f (al : Int) (ah : Int) (bl : Int) (bh : Int) = some (meetN al ah bl bh) := by
  unfold q6z.f meetN
  rw [quoN al h1, quoN ah h2, quoN bl h3, quoN bh h4, remN al, remN ah, remN bl, remN bh, mx_nat, mx_nat, mn_nat, mn_nat]
  have x1 : al / 65536 < 65536 := by omega
  have x2 : ah / 65536 < 65536 := by omega
  have x3 : bl / 65536 < 65536 := by omega
  have x4 : bh / 65536 < 65536 := by omega
  have y1 : al % 65536 < 65536 := by omega
  have y2 : ah % 65536 < 65536 := by omega
  have y3 : bl % 65536 < 65536 := by omega
  have y4 : bh % 65536 < 65536 := by omega
  generalize al / 65536 = a at x1 ⊢
  generalize ah / 65536 = b at x2 ⊢
  generalize bl / 65536 = c at x3 ⊢
  generalize bh / 65536 = d at x4 ⊢
  generalize al % 65536 = a' at y1 ⊢
  generalize ah % 65536 = b' at y2 ⊢
  generalize bl % 65536 = c' at y3 ⊢
  generalize bh % 65536 = d' at y4 ⊢
  obtain ⟨p, hp⟩ : ∃ p, p = max a c := ⟨_, rfl⟩
  obtain ⟨q, hq⟩ : ∃ q, q = min b d := ⟨_, rfl⟩
  obtain ⟨p', hp'⟩ : ∃ p, p = max a' c' := ⟨_, rfl⟩
  obtain ⟨q', hq'⟩ : ∃ q, q = min b' d' := ⟨_, rfl⟩
  rw [← hp, ← hq, ← hp', ← hq']
  have b1 : p < 65536 := by omega
  have b2 : q < 65536 := by omega
  have b3 : p' < 65536 := by omega
  have b4 : q' < 65536 := by omega
  by_cases c1 : p ≤ q
  · rw [if_neg (by omega), decide_eq_true c1, Bool.true_and]
    by_cases c2 : p' ≤ q'
    · rw [if_neg (by omega), decide_eq_true c2, if_pos rfl]
      congr 2
      · omega
      · congr 1
        omega
    · rw [if_pos (by omega), decide_eq_false c2, if_neg (by decide)]
  · rw [if_pos (by omega), decide_eq_false c1, Bool.false_and, if_neg (by decide)]
/-- The box that lies in both, with its ends as numbers. -/
theorem meetN_no (al ah bl bh : Nat) (h : (meetN al ah bl bh).2.2 = false) (c : Nat) : (inB al ah c && inB bl bh c) = false := by
  unfold meetN at h
  split at h
  · simp at h
  · rename_i hn
    rw [Bool.eq_false_iff]
    intro hc
    apply hn
    simp only [inB, withinN, Bool.and_eq_true, decide_eq_true_eq] at hc ⊢
    omega
theorem meetN_yes (al ah bl bh : Nat) (h1 : al < 4294967296) (h2 : ah < 4294967296) (h3 : bl < 4294967296) (h4 : bh < 4294967296) (h : (meetN al ah bl bh).2.2 = true) :
    ∃ m n : Nat, (meetN al ah bl bh).1 = (m : Int) ∧ (meetN al ah bl bh).2.1 = (n : Int) ∧ m < 4294967296 ∧ n < 4294967296 ∧ m / 65536 = max (al / 65536) (bl / 65536) ∧ m % 65536 = max (al % 65536) (bl % 65536) ∧ n / 65536 = min (ah / 65536) (bh / 65536) ∧ n % 65536 = min (ah % 65536) (bh % 65536) := by
  unfold meetN at h ⊢
  split at h
  · rename_i hn
    rw [if_pos hn]
    exact ⟨_, _, rfl, rfl, by omega, by omega, by omega, by omega, by omega, by omega⟩
  · simp at h
theorem inB_meet (al ah bl bh m n c : Nat) (e1 : m / 65536 = max (al / 65536) (bl / 65536)) (e2 : m % 65536 = max (al % 65536) (bl % 65536)) (e3 : n / 65536 = min (ah / 65536) (bh / 65536)) (e4 : n % 65536 = min (ah % 65536) (bh % 65536)) : inB m n c = (inB al ah c && inB bl bh c) := by
  rw [Bool.eq_iff_iff]
  simp only [inB, withinN, Bool.and_eq_true, decide_eq_true_eq, e1, e2, e3, e4]
  omega
end Go.Proofs.Ytdkbfcogmlghfaa.P

namespace Go.Proofs.Ytdkbfcogmlghfaa.P
open Go.Sort
set_option linter.unusedVariables false
/-! A sorted list with what is alike left out. -/
def cmpU (l : List Int) : List Int := Go.Lib.compactUpTo l.toArray l.length
theorem getB (l : List Int) (i : Nat) (h : i < l.length) : l.toArray[i]! = l[i] := by
  rw [getElem!_pos l.toArray i (by simpa using h)]
  simp
theorem cmpU_lt (l : List Int) (h : l.Pairwise (fun a b : Int => a ≤ b)) : (cmpU l).Pairwise (fun a b : Int => a < b) := by
  unfold cmpU Go.Lib.compactUpTo
  rw [List.pairwise_map, List.pairwise_filter, List.pairwise_iff_getElem]
  intro i j hi hj hij
  simp only [List.getElem_range]
  intro ki kj
  rw [List.length_range] at hi hj
  rw [List.pairwise_iff_getElem] at h
  simp only [Go.Lib.keeps, decide_eq_true_eq] at kj
  rcases kj with kj | kj
  · omega
  · have e : j - 1 + 1 = j := by omega
    rw [getB l i hi, getB l j hj]
    rw [getB l j hj, getB l (j - 1) (by omega)] at kj
    have h1 := h (j - 1) j (by omega) hj (by omega)
    rcases Nat.lt_or_ge i (j - 1) with h2 | h2
    · have h3 := h i (j - 1) hi (by omega) h2
      omega
    · have e2 : i = j - 1 := by omega
      subst e2
      omega
theorem cmpU_sub (l : List Int) (x : Int) (hx : x ∈ cmpU l) : x ∈ l := by
  unfold cmpU Go.Lib.compactUpTo at hx
  rw [List.mem_map] at hx
  obtain ⟨i, hi, rfl⟩ := hx
  have hi' := List.mem_range.1 (List.mem_filter.1 hi).1
  rw [getB l i hi']
  exact List.getElem_mem hi'
theorem cmpU_sup (l : List Int) : ∀ i (h : i < l.length), l[i] ∈ cmpU l := by
  intro i
  induction i with
  | zero =>
    intro h
    unfold cmpU Go.Lib.compactUpTo
    rw [List.mem_map]
    exact ⟨0, List.mem_filter.2 ⟨List.mem_range.2 h, by simp [Go.Lib.keeps]⟩, getB l 0 h⟩
  | succ i ih =>
    intro h
    by_cases e : l[i + 1] = l[i]
    · rw [e]; exact ih (by omega)
    · unfold cmpU Go.Lib.compactUpTo
      rw [List.mem_map]
      refine ⟨i + 1, List.mem_filter.2 ⟨List.mem_range.2 h, ?_⟩, getB l (i + 1) h⟩
      simp only [Go.Lib.keeps, decide_eq_true_eq]
      refine .inr ?_
      rw [getB l (i + 1) h, Nat.add_sub_cancel, getB l i (by omega)]
      exact e
theorem cmpU_mem (l : List Int) (x : Int) : x ∈ cmpU l ↔ x ∈ l := by
  constructor
  · exact cmpU_sub l x
  · intro h
    obtain ⟨i, hi, rfl⟩ := List.getElem_of_mem h
    exact cmpU_sup l i hi
theorem cmpU_le (l : List Int) : (cmpU l).length ≤ l.length := by
  unfold cmpU Go.Lib.compactUpTo
  rw [List.length_map]
  exact Nat.le_trans (List.length_filter_le _ _) (by simp)
theorem lt_unique : ∀ (l r : List Int), l.Pairwise (fun a b : Int => a < b) → r.Pairwise (fun a b : Int => a < b) → (∀ x, x ∈ l ↔ x ∈ r) → l = r
  | [], [], _, _, _ => rfl
  | [], y :: t, _, _, h => by have := (h y).2 (List.mem_cons_self ..); simp at this
  | x :: s, [], _, _, h => by have := (h x).1 (List.mem_cons_self ..); simp at this
  | x :: s, y :: t, h1, h2, h => by
    rw [List.pairwise_cons] at h1 h2
    have hxy : x = y := by
      rcases List.mem_cons.1 ((h x).1 (List.mem_cons_self ..)) with e | e
      · exact e
      · rcases List.mem_cons.1 ((h y).2 (List.mem_cons_self ..)) with e2 | e2
        · exact e2.symm
        · have a1 := h2.1 x e
          have a2 := h1.1 y e2
          omega
    subst hxy
    rw [lt_unique s t h1.2 h2.2]
    intro z
    constructor
    · intro hz
      rcases List.mem_cons.1 ((h z).1 (List.mem_cons_of_mem _ hz)) with e | e
      · have := h1.1 z hz; omega
      · exact e
    · intro hz
      rcases List.mem_cons.1 ((h z).2 (List.mem_cons_of_mem _ hz)) with e | e
      · have := h2.1 z hz; omega
      · exact e
/-- A list's numbers, each once, rising. -/
def setU (l : List Int) : List Int := cmpU (sortU l)
theorem setU_lt (l : List Int) : (setU l).Pairwise (fun a b : Int => a < b) := cmpU_lt _ (sortU_pair l)
theorem setU_mem (l : List Int) (x : Int) : x ∈ setU l ↔ x ∈ l := (cmpU_mem _ x).trans (sortU_mem l x)
theorem setU_le (l : List Int) : (setU l).length ≤ l.length := Nat.le_trans (cmpU_le _) (Nat.le_of_eq (sortU_len l))
theorem setU_self (l : List Int) (h : l.Pairwise (fun a b : Int => a < b)) : setU l = l := lt_unique _ _ (setU_lt l) h (setU_mem l)
theorem setU_idem (l : List Int) : setU (setU l) = setU l := setU_self _ (setU_lt l)
end Go.Proofs.Ytdkbfcogmlghfaa.P

namespace Go.Proofs.Ytdkbfcogmlghfaa.P
open Go.RowKit Go.Proofs.YtdkbfcogmlghfaaW.PrintWords Go.Proofs.YtdkbfcogmlghfaaW.PrintMore
set_option linter.unusedVariables false
set_option linter.unusedSimpArgs false
/-! What plane.Cells computes. -/
theorem wrC (i : Nat) (h : i < 9223372036854775807) : wrap64 ((i : Int) + 1) = ((i + 1 : Nat) : Int) := by unfold wrap64; omega
theorem rdC24 (l : List S24) (i : Nat) (h : i < l.length) : rd_T24 l (i : Int) = l[i] := by
  unfold rd_T24
  rw [Int.toNat_natCast, List.getD_eq_getElem?_getD, List.getElem?_eq_getElem h]
  rfl
def Boxes (l : List S24) : Prop := l.length ≤ 64 ∧ ∀ b ∈ l, ∃ lo hi : Nat, b.f0 = (lo : Int) ∧ b.f1 = (hi : Int) ∧ lo < 4294967296 ∧ hi < 4294967296
theorem boxes_of (l : List S24) (hl : l.length ≤ 64) (h : ∀ z ∈ l, good24 z) : Boxes l := ⟨hl, fun b hb => by
  obtain ⟨lo, e1, l1⟩ := u32_nat (h b hb).1
  obtain ⟨hi, e2, l2⟩ := u32_nat (h b hb).2
  exact ⟨lo, hi, e1, e2, l1, l2⟩⟩
theorem box_f (l : List S24) (hl : Boxes l) (b : S24) (hb : b ∈ l) (c : Int) (h0 : 0 ≤ c) (h1 : c < 4294967296) : plane_In.f b.f0 b.f1 c = some (inS c b) := by
  obtain ⟨lo, hi, e1, e2, l1, l2⟩ := hl.2 b hb
  obtain ⟨n, rfl⟩ : ∃ n : Nat, c = (n : Int) := ⟨c.toNat, by omega⟩
  unfold inS
  rw [e1, e2, in_f lo hi n l1 l2 (by omega)]
  rfl
/-! One kind. -/
def fI (c : Int) (b : S24) : Int := if inS c b = true then 1 else 0
theorem kind_l0 (l : List S24) (hl : Boxes l) (c : Int) (h0 : 0 ≤ c) (h1 : c < 4294967296) : ∀ (d i k : Nat), i + d = l.length → d + 1 ≤ k → q3z.l0 k c ((l.take i).map (fI c) ++ List.replicate d 0) l (l.length : Int) (i : Int) = some (strOfNums (l.map (fI c)))
  | 0, i, k, hi, hk => by
    obtain ⟨k, rfl⟩ : ∃ k', k = k' + 1 := ⟨k - 1, by omega⟩
    simp only [q3z.l0]
    rw [if_neg (by omega), List.take_of_length_le (by omega)]
    simp
  | d + 1, i, k, hi, hk => by
    obtain ⟨k, rfl⟩ : ∃ k', k = k' + 1 := ⟨k - 1, by omega⟩
    have hil : i < l.length := by omega
    have hll := hl.1
    have hin := box_f l hl l[i] (List.getElem_mem hil) c h0 h1
    have ih := kind_l0 l hl c h0 h1 d (i + 1) k (by omega) (by omega)
    have htk : l.take (i + 1) = l.take i ++ [l[i]] := by rw [List.take_append_getElem hil]
    rw [htk] at ih
    have hpl : ((l.take i).map (fI c)).length = i := by simp; omega
    simp only [q3z.l0]
    rw [if_pos (by omega), if_pos (by omega), if_pos (by omega), rdC24 l i hil, hin, Option.bind_some, wrC i (by omega)]
    cases hv : inS c l[i] with
    | true =>
      rw [if_pos rfl, if_pos (by simp; omega), Int.toNat_natCast]
      have hset : ((l.take i).map (fI c) ++ List.replicate (d + 1) 0).set i 1 = (l.take i ++ [l[i]]).map (fI c) ++ List.replicate d 0 := by
        rw [List.set_append_right _ _ (by omega), hpl, Nat.sub_self, List.replicate_succ, List.set_cons_zero, List.map_append]
        simp [fI, hv]
      rw [hset]
      exact ih
    | false =>
      rw [if_neg (by decide)]
      have heq : (l.take i).map (fI c) ++ List.replicate (d + 1) 0 = (l.take i ++ [l[i]]).map (fI c) ++ List.replicate d 0 := by
        rw [List.replicate_succ, List.map_append]
        simp [fI, hv]
      rw [heq]
      exact ih
theorem kind_f (l : List S24) (hl : Boxes l) (c : Int) (h0 : 0 ≤ c) (h1 : c < 4294967296) (k : Nat) (hk : 65 ≤ k) : q3z.f k l c = some (strOfNums (l.map (fI c))) := by
  have hll := hl.1
  unfold q3z.f
  rw [if_pos (by omega), if_pos (by omega)]
  have h := kind_l0 l hl c h0 h1 l.length 0 k (by omega) (by omega)
  simp only [List.take_zero, List.map_nil, List.nil_append] at h
  rw [Int.toNat_natCast]
  exact h
theorem kind_bytes (l : List S24) (c : Int) : (strOfNums (l.map (fI c))).data.toList = kb l c := by
  unfold strOfNums kb
  simp only [List.map_map]
  apply List.map_congr_left
  intro b _
  show UInt8.ofNat (fI c b).toNat = _
  unfold fI
  cases inS c b <;> rfl
theorem kind_size (l : List S24) (c : Int) : (strOfNums (l.map (fI c))).size = l.length := by
  have h := congrArg List.length (kind_bytes l c)
  unfold kb at h
  rw [List.length_map] at h
  exact h
/-! The rows of cells. -/
theorem cellsRow_f (l : List S24) (hl : Boxes l) (x : Int) (hx : 0 ≤ x ∧ x < 65536) (k : Nat) (hk : 65 ≤ k) : ∀ (ys : List Int) (s : List (List UInt8) × List Int), (∀ y ∈ ys, 0 ≤ y ∧ y < 65536) → s.2.length + ys.length < 35184372088832 →
    cellsRow k l x ys s.1 s.2 = some (runK l (ys.map (fun y => x * 65536 + y)) s)
  | [], s, _, _ => rfl
  | y :: ys, s, hy, hn => by
    have hy0 := hy y List.mem_cons_self
    have hc : (x * 65536 + y) % 4294967296 = x * 65536 + y := by omega
    have hll := hl.1
    simp only [List.length_cons] at hn
    simp only [cellsRow, List.map_cons, runK]
    rw [hc, kind_f l hl (x * 65536 + y) (by omega) (by omega) k hk, Option.bind_some, if_pos (by rw [kind_size]; omega), kind_bytes]
    unfold stepK
    by_cases hm : decide (kb l (x * 65536 + y) ∈ s.1) = true
    · rw [if_pos hm, if_pos hm]
      exact cellsRow_f l hl x hx k hk ys s (fun z hz => hy z (List.mem_cons_of_mem _ hz)) (by omega)
    · rw [if_neg hm, if_neg hm, if_pos (by omega)]
      exact cellsRow_f l hl x hx k hk ys (_, _) (fun z hz => hy z (List.mem_cons_of_mem _ hz)) (by simp; omega)
theorem stepK_len (l : List S24) (s : List (List UInt8) × List Int) (c : Int) : (stepK l s c).2.length ≤ s.2.length + 1 := by
  unfold stepK
  split <;> simp
theorem runK_len (l : List S24) : ∀ (cs : List Int) (s : List (List UInt8) × List Int), (runK l cs s).2.length ≤ s.2.length + cs.length
  | [], s => by simp [runK]
  | c :: cs, s => by
    have h1 := runK_len l cs (stepK l s c)
    have h2 := stepK_len l s c
    simp only [runK, List.length_cons]
    omega
theorem cellsAll_f (l : List S24) (hl : Boxes l) (ys : List Int) (hys : ys.length ≤ 1000000) (hy : ∀ y ∈ cmpU ys, 0 ≤ y ∧ y < 65536) (k : Nat) (hk : 65 ≤ k) : ∀ (xs : List Int) (s : List (List UInt8) × List Int), (∀ x ∈ xs, 0 ≤ x ∧ x < 65536) → s.2.length + xs.length * 1000000 < 35184372088832 →
    cellsAll k l ys xs s.1 s.2 = some (runK l (gridK xs (cmpU ys)) s).2
  | [], s, _, _ => rfl
  | x :: xs, s, hx, hn => by
    have hcl : (cmpU ys).length ≤ ys.length := cmpU_le ys
    simp only [List.length_cons, Nat.succ_mul] at hn
    have h1 : Clone_u32.f ys = some ys := if_pos (by omega)
    have h2 : Compact_u32.f ys = some (cmpU ys) := if_pos (by omega)
    have h3 := cellsRow_f l hl x (hx x List.mem_cons_self) k hk (cmpU ys) s hy (by omega)
    have h4 := runK_len l ((cmpU ys).map (fun y => x * 65536 + y)) s
    rw [List.length_map] at h4
    simp only [cellsAll, gridK]
    rw [h1, Option.bind_some, h2, Option.bind_some, h3, Option.bind_some, runK_append]
    exact cellsAll_f l hl ys hys hy k hk xs _ (fun z hz => hx z (List.mem_cons_of_mem _ hz)) (by omega)
end Go.Proofs.Ytdkbfcogmlghfaa.P

namespace Go.Proofs.Ytdkbfcogmlghfaa.P
open Go.RowKit Go.Proofs.YtdkbfcogmlghfaaW.PrintWords Go.Proofs.YtdkbfcogmlghfaaW.PrintMore
set_option linter.unusedVariables false
set_option linter.unusedSimpArgs false
/-! Where boxes begin and end, and that each community has its cell. -/
def cutX (b : S24) : List Int := (Int.tdiv b.f0 65536 % 4294967296) :: (if (Int.tdiv b.f1 65536 + 1) % 4294967296 < 65536 then [(Int.tdiv b.f1 65536 + 1) % 4294967296] else [])
def cutY (b : S24) : List Int := (Int.tmod b.f0 65536) :: (if (Int.tmod b.f1 65536 + 1) % 4294967296 < 65536 then [(Int.tmod b.f1 65536 + 1) % 4294967296] else [])
theorem cutX_len (b : S24) : (cutX b).length ≤ 2 := by unfold cutX; split <;> simp
theorem cutY_len (b : S24) : (cutY b).length ≤ 2 := by unfold cutY; split <;> simp
theorem half_l0 (l : List S24) (hl : Boxes l) : ∀ (d i k : Nat) (x4 x5 : List Int), i + d = l.length → d + 1 ≤ k → x4.length + 2 * d ≤ 1000 → x5.length + 2 * d ≤ 1000 →
    cells_half.l0 k x4 x5 l (l.length : Int) (i : Int) = some (sortU (x4 ++ (l.drop i).flatMap cutX), sortU (x5 ++ (l.drop i).flatMap cutY))
  | 0, i, k, x4, x5, hi, hk, h4, h5 => by
    obtain ⟨k, rfl⟩ : ∃ k', k = k' + 1 := ⟨k - 1, by omega⟩
    have s4 : Sort_u32.f k x4 = some (sortU x4) := if_pos (by omega)
    have s5 : Sort_u32.f k x5 = some (sortU x5) := if_pos (by omega)
    simp only [cells_half.l0]
    rw [if_neg (by omega), s4, Option.bind_some, s5, Option.bind_some, List.drop_eq_nil_of_le (by omega)]
    simp
  | d + 1, i, k, x4, x5, hi, hk, h4, h5 => by
    obtain ⟨k, rfl⟩ : ∃ k', k = k' + 1 := ⟨k - 1, by omega⟩
    have hil : i < l.length := by omega
    have hll := hl.1
    have hrd := rdC24 l i hil
    rw [List.drop_eq_getElem_cons hil]
    generalize l[i] = b at hrd
    have lx := cutX_len b
    have ly := cutY_len b
    have ih := half_l0 l hl d (i + 1) k (x4 ++ cutX b) (x5 ++ cutY b) (by omega) (by omega) (by simp; omega) (by simp; omega)
    rw [List.append_assoc, List.append_assoc] at ih
    simp only [List.flatMap_cons]
    rw [← ih]
    clear ih
    simp only [cells_half.l0, Option.bind_some]
    rw [if_pos (by omega), if_pos (by omega), if_pos (by omega), hrd, if_pos (by simp; omega), if_pos (by simp; omega), wrC i (by omega)]
    unfold cutX cutY
    by_cases cx : (Int.tdiv b.f1 65536 + 1) % 4294967296 < 65536
    · rw [if_pos cx, if_pos cx, if_pos (by simp; omega)]
      by_cases cy : (Int.tmod b.f1 65536 + 1) % 4294967296 < 65536
      · rw [if_pos cy, if_pos cy, if_pos (by simp; omega)]
        simp
      · rw [if_neg cy, if_neg cy]
        simp
    · rw [if_neg cx, if_neg cx]
      by_cases cy : (Int.tmod b.f1 65536 + 1) % 4294967296 < 65536
      · rw [if_pos cy, if_pos cy, if_pos (by simp; omega)]
        simp
      · rw [if_neg cy, if_neg cy]
def xsOf (l : List S24) : List Int := 0 :: l.flatMap cutX
def ysOf (l : List S24) : List Int := 0 :: l.flatMap cutY
def cellsOf (l : List S24) : List Int := (runK l (gridK (setU (xsOf l)) (setU (ysOf l))) ([], [])).2
theorem flat_len (f : S24 → List Int) (h : ∀ b, (f b).length ≤ 2) : ∀ l : List S24, (l.flatMap f).length ≤ 2 * l.length
  | [] => by simp
  | b :: l => by
    have := flat_len f h l
    have := h b
    simp only [List.flatMap_cons, List.length_append, List.length_cons]
    omega
/-- The parts of a box. -/
theorem mem_xs (l : List S24) (hl : Boxes l) (x : Int) (h : x ∈ setU (xsOf l)) : 0 ≤ x ∧ x < 65536 := by
  rw [setU_mem] at h
  rcases List.mem_cons.1 h with rfl | h
  · omega
  · obtain ⟨b, hb, h⟩ := List.mem_flatMap.1 h
    obtain ⟨lo, hi, e1, e2, l1, l2⟩ := hl.2 b hb
    unfold cutX at h
    rw [e1, e2, quoN lo l1] at h
    split at h
    · rename_i hc
      rcases List.mem_cons.1 h with rfl | h
      · omega
      · rw [List.mem_singleton.1 h]
        omega
    · rw [List.mem_singleton.1 h]
      omega
theorem mem_ys (l : List S24) (hl : Boxes l) (y : Int) (h : y ∈ setU (ysOf l)) : 0 ≤ y ∧ y < 65536 := by
  rw [setU_mem] at h
  rcases List.mem_cons.1 h with rfl | h
  · omega
  · obtain ⟨b, hb, h⟩ := List.mem_flatMap.1 h
    obtain ⟨lo, hi, e1, e2, l1, l2⟩ := hl.2 b hb
    unfold cutY at h
    rw [e1, e2, remN lo] at h
    split at h
    · rename_i hc
      rcases List.mem_cons.1 h with rfl | h
      · omega
      · rw [List.mem_singleton.1 h]
        omega
    · rw [List.mem_singleton.1 h]
      omega
theorem cells_f (l : List S24) (hl : Boxes l) (k : Nat) (hk : 66 ≤ k) : plane_Cells.f k l = some (cellsOf l, 0) := by
  have hll := hl.1
  have hh : cells_half.f k l = some (sortU (xsOf l), sortU (ysOf l)) := by
    have := half_l0 l hl l.length 0 k [0] [0] (by omega) (by omega) (by simp; omega) (by simp; omega)
    rw [List.drop_zero] at this
    exact this
  have fx := flat_len cutX cutX_len l
  have fy := flat_len cutY cutY_len l
  have lx : (xsOf l).length ≤ 200 := by unfold xsOf; simp only [List.length_cons]; omega
  have ly : (ysOf l).length ≤ 200 := by unfold ysOf; simp only [List.length_cons]; omega
  have hcx : Compact_u32.f (sortU (xsOf l)) = some (setU (xsOf l)) := if_pos (by rw [sortU_len]; omega)
  have hsl := setU_le (xsOf l)
  have hall := cellsAll_f l hl (sortU (ysOf l)) (by rw [sortU_len]; omega) (fun y hy => mem_ys l hl y hy) k (by omega) (setU (xsOf l)) ([], []) (fun x hx => mem_xs l hl x hx) (by simp; omega)
  unfold plane_Cells.f
  rw [if_neg (by omega), hh, Option.bind_some]
  unfold cellsTail
  rw [hcx, Option.bind_some, hall, Option.bind_some]
  rfl
/-- The greatest of a list that isn't above n. -/
theorem greatest (L : List Int) (n : Int) (h0 : ∃ m ∈ L, m ≤ n) : ∃ m ∈ L, m ≤ n ∧ ∀ z ∈ L, z ≤ n → z ≤ m := by
  induction L with
  | nil => obtain ⟨m, hm, _⟩ := h0; simp at hm
  | cons a L ih =>
    by_cases hL : ∃ m ∈ L, m ≤ n
    · obtain ⟨m, hm, h1, h2⟩ := ih hL
      by_cases ha : a ≤ n ∧ m < a
      · exact ⟨a, List.mem_cons_self, ha.1, fun z hz hzn => by
          rcases List.mem_cons.1 hz with rfl | hz
          · exact Int.le_refl _
          · have := h2 z hz hzn; omega⟩
      · exact ⟨m, List.mem_cons_of_mem _ hm, h1, fun z hz hzn => by
          rcases List.mem_cons.1 hz with rfl | hz
          · omega
          · exact h2 z hz hzn⟩
    · obtain ⟨m, hm, h1⟩ := h0
      rcases List.mem_cons.1 hm with rfl | hm
      · exact ⟨m, List.mem_cons_self, h1, fun z hz hzn => by
          rcases List.mem_cons.1 hz with rfl | hz
          · exact Int.le_refl _
          · exact absurd ⟨z, hz, hzn⟩ hL⟩
      · exact absurd ⟨m, hm, h1⟩ hL
theorem cell_of (l : List S24) (hl : Boxes l) (c : Nat) (hc : c < 4294967296) : ∃ d ∈ gridK (setU (xsOf l)) (setU (ysOf l)), d ≤ (c : Int) ∧ kb l d = kb l (c : Int) := by
  have zx : (0 : Int) ∈ setU (xsOf l) := (setU_mem _ _).2 List.mem_cons_self
  have zy : (0 : Int) ∈ setU (ysOf l) := (setU_mem _ _).2 List.mem_cons_self
  obtain ⟨x, hx, x1, x2⟩ := greatest (setU (xsOf l)) ((c / 65536 : Nat) : Int) ⟨0, zx, by omega⟩
  obtain ⟨y, hy, y1, y2⟩ := greatest (setU (ysOf l)) ((c % 65536 : Nat) : Int) ⟨0, zy, by omega⟩
  have rx := mem_xs l hl x hx
  have ry := mem_ys l hl y hy
  refine ⟨x * 65536 + y, (mem_gridK _ _ _).2 ⟨x, hx, y, hy, rfl⟩, by omega, ?_⟩
  rw [kb_iff]
  intro b hb
  obtain ⟨lo, hi, e1, e2, l1, l2⟩ := hl.2 b hb
  have mx0 : ((lo / 65536 : Nat) : Int) ∈ setU (xsOf l) := (setU_mem _ _).2 (List.mem_cons_of_mem _ (List.mem_flatMap.2 ⟨b, hb, by unfold cutX; rw [e1, quoN lo l1]; exact List.mem_cons_self⟩))
  have my0 : ((lo % 65536 : Nat) : Int) ∈ setU (ysOf l) := (setU_mem _ _).2 (List.mem_cons_of_mem _ (List.mem_flatMap.2 ⟨b, hb, by unfold cutY; rw [e1, remN lo]; exact List.mem_cons_self⟩))
  have mx1 : hi / 65536 + 1 < 65536 → ((hi / 65536 + 1 : Nat) : Int) ∈ setU (xsOf l) := fun h => (setU_mem _ _).2 (List.mem_cons_of_mem _ (List.mem_flatMap.2 ⟨b, hb, by
    have e : (Int.tdiv b.f1 65536 + 1) % 4294967296 = ((hi / 65536 + 1 : Nat) : Int) := by
      rw [e2, Int.tdiv_eq_ediv_of_nonneg (by omega)]
      omega
    unfold cutX
    rw [e, if_pos (by omega)]
    simp⟩))
  have my1 : hi % 65536 + 1 < 65536 → ((hi % 65536 + 1 : Nat) : Int) ∈ setU (ysOf l) := fun h => (setU_mem _ _).2 (List.mem_cons_of_mem _ (List.mem_flatMap.2 ⟨b, hb, by
    have e : (Int.tmod b.f1 65536 + 1) % 4294967296 = ((hi % 65536 + 1 : Nat) : Int) := by
      rw [e2, remN hi]
      omega
    unfold cutY
    rw [e, if_pos (by omega)]
    simp⟩))
  have qx0 := x2 _ mx0
  have qy0 := y2 _ my0
  have qx1 : hi / 65536 + 1 < 65536 → ((hi / 65536 + 1 : Nat) : Int) ≤ ((c / 65536 : Nat) : Int) → ((hi / 65536 + 1 : Nat) : Int) ≤ x := fun h => x2 _ (mx1 h)
  have qy1 : hi % 65536 + 1 < 65536 → ((hi % 65536 + 1 : Nat) : Int) ≤ ((c % 65536 : Nat) : Int) → ((hi % 65536 + 1 : Nat) : Int) ≤ y := fun h => y2 _ (my1 h)
  clear x2 y2 mx0 my0 mx1 my1 hx hy zx zy
  obtain ⟨X, rfl⟩ : ∃ X : Nat, x = (X : Int) := ⟨x.toNat, by omega⟩
  obtain ⟨Y, rfl⟩ : ∃ Y : Nat, y = (Y : Int) := ⟨y.toNat, by omega⟩
  have ed : ((X : Int) * 65536 + (Y : Int)).toNat = X * 65536 + Y := by omega
  unfold inS inB withinN
  rw [ed, e1, e2]
  simp only [Int.toNat_natCast]
  have d1 : (X * 65536 + Y) / 65536 = X := by omega
  have d2 : (X * 65536 + Y) % 65536 = Y := by omega
  rw [d1, d2, Bool.eq_iff_iff]
  simp only [Bool.and_eq_true, decide_eq_true_eq]
  have b1 : c / 65536 < 65536 := by omega
  have b2 : c % 65536 < 65536 := by omega
  generalize c / 65536 = cx at *
  generalize c % 65536 = cy at *
  generalize lo / 65536 = lx at *
  generalize lo % 65536 = ly at *
  have b3 : hi / 65536 < 65536 := by omega
  have b4 : hi % 65536 < 65536 := by omega
  generalize hi / 65536 = hx at *
  generalize hi % 65536 = hy at *
  constructor
  · rintro ⟨g1, g2, g3, g4⟩
    refine ⟨by omega, by omega, ?_, ?_⟩
    · apply Classical.byContradiction; intro hn; have := qx1 (by omega) (by omega); omega
    · apply Classical.byContradiction; intro hn; have := qy1 (by omega) (by omega); omega
  · rintro ⟨g1, g2, g3, g4⟩
    refine ⟨?_, ?_, by omega, by omega⟩
    · have := qx0 (by omega); omega
    · have := qy0 (by omega); omega
theorem cellsOf_spec (l : List S24) (hl : Boxes l) : (cellsOf l).Pairwise (fun a b : Int => a < b) ∧ (cellsOf l).Pairwise (fun a b : Int => kb l a ≠ kb l b) ∧ (∀ d ∈ cellsOf l, 0 ≤ d ∧ d < 4294967296) ∧ (∀ c : Nat, c < 4294967296 → ∃ d ∈ cellsOf l, kb l d = kb l (c : Int) ∧ d ≤ (c : Int)) ∧ (cellsOf l).length ≤ 1000000 := by
  have hll := hl.1
  have hg := gridK_rise (setU (ysOf l)) (setU_lt _) (fun y hy => mem_ys l hl y hy) (setU (xsOf l)) (setU_lt _)
  obtain ⟨q1, q2, q3, q4, q5⟩ := runK_spec l (gridK (setU (xsOf l)) (setU (ysOf l))) ([], []) (invK_nil l) hg (by simp)
  refine ⟨q1.rise, q1.one, fun d hd => ?_, fun c hc => ?_, ?_⟩
  · rcases q4 d hd with h | h
    · simp at h
    · obtain ⟨x, hx, y, hy, rfl⟩ := (mem_gridK _ _ _).1 h
      have := mem_xs l hl x hx
      have := mem_ys l hl y hy
      omega
  · obtain ⟨d, hd, h1, h2⟩ := cell_of l hl c hc
    obtain ⟨d', hd', h3, h4⟩ := q3 d hd
    exact ⟨d', hd', h3.trans h2, Int.le_trans h4 h1⟩
  · have fx := flat_len cutX cutX_len l
    have fy := flat_len cutY cutY_len l
    have lx := setU_le (xsOf l)
    have ly := setU_le (ysOf l)
    unfold xsOf at lx
    unfold ysOf at ly
    simp only [List.length_cons] at lx ly
    have gl : ∀ (xs ys : List Int), (gridK xs ys).length = xs.length * ys.length := by
      intro xs ys
      induction xs with
      | nil => simp [gridK]
      | cons x xs ih => simp only [gridK, List.length_append, List.length_map, ih, List.length_cons, Nat.succ_mul]; omega
    rw [gl] at q5
    have hm : (setU (xsOf l)).length * (setU (ysOf l)).length ≤ 200 * 200 := Nat.mul_le_mul (by unfold xsOf; omega) (by unfold ysOf; omega)
    simp only [List.length_nil] at q5
    unfold cellsOf
    omega
end Go.Proofs.Ytdkbfcogmlghfaa.P

namespace Go.Proofs.Ytdkbfcogmlghfaa.P
open Go.RowKit Go.Proofs.YtdkbfcogmlghfaaW.PrintWords Go.Proofs.YtdkbfcogmlghfaaW.PrintMore
theorem alive_ev : Ev (fun k => q4z.f k) true := by
  refine ⟨60, fun k hk => ?_⟩
  obtain ⟨m, rfl⟩ : ∃ m, k = m + 60 := ⟨k - 60, by omega⟩
  kernel_rfl
end Go.Proofs.Ytdkbfcogmlghfaa.P

namespace Go.Proofs.Ytdkbfcogmlghfaa.P
open Go.RowKit Go.Proofs.YtdkbfcogmlghfaaW.PrintWords Go.Proofs.YtdkbfcogmlghfaaW.PrintMore
set_option linter.unusedVariables false
set_option linter.unusedSimpArgs false
theorem wrD (i : Nat) (h : i < 9223372036854775807) (h0 : 0 < i) : wrap64 ((i : Int) - 1) = ((i - 1 : Nat) : Int) := by unfold wrap64; omega
theorem rdD (l : List Int) (i : Nat) (h : i < l.length) : rd l (i : Int) = l[i] := by
  unfold rd
  rw [Int.toNat_natCast, List.getD_eq_getElem?_getD, List.getElem?_eq_getElem h]
  rfl
/-- Are two communities in the same boxes? -/
def alike (l : List S24) (c d : Int) : Bool := l.all (fun b => inS c b == inS d b)
theorem alike_iff (l : List S24) (c d : Int) : alike l c d = true ↔ kb l d = kb l c := by
  unfold alike
  rw [kb_iff, List.all_eq_true]
  constructor
  · intro h b hb
    exact (beq_iff_eq.1 (h b hb)).symm
  · intro h b hb
    exact beq_iff_eq.2 (h b hb).symm
theorem kinds_l1 (l : List S24) (hl : Boxes l) (c : Nat) (hc : c < 4294967296) (C : List Int) (n : Int) (d : Int) (hd : 0 ≤ d ∧ d < 4294967296) (i : Int) (res : Bool) : ∀ (e j : Nat) (g : Bool), j + e = l.length →
    Ev (fun k => q5z.l1 k l (c : Int) C n d (g && alike (l.drop j) (c : Int) d) C (C.length : Int) i l (l.length : Int) (l.length : Int)) res →
    Ev (fun k => q5z.l1 k l (c : Int) C n d g C (C.length : Int) i l (l.length : Int) (j : Int)) res
  | 0, j, g, hj, h => by
    rw [List.drop_eq_nil_of_le (by omega)] at h
    have e1 : alike [] (c : Int) d = true := rfl
    rw [e1, Bool.and_true] at h
    have e2 : j = l.length := by omega
    rw [e2]
    exact h
  | e + 1, j, g, hj, h => by
    have hjl : j < l.length := by omega
    have hll := hl.1
    have hrd := rdC24 l j hjl
    have hmem : l[j] ∈ l := List.getElem_mem hjl
    have f1 := box_f l hl l[j] hmem (c : Int) (by omega) (by omega)
    have f2 := box_f l hl l[j] hmem d hd.1 hd.2
    rw [List.drop_eq_getElem_cons hjl] at h
    generalize l[j] = b at hrd f1 f2 h
    have ha : alike (b :: l.drop (j + 1)) (c : Int) d = ((inS (c : Int) b == inS d b) && alike (l.drop (j + 1)) (c : Int) d) := by simp [alike]
    rw [ha] at h
    have ih := kinds_l1 l hl c hc C n d hd i res e (j + 1) (g && (inS (c : Int) b == inS d b)) (by omega) (by rw [Bool.and_assoc]; exact h)
    refine Ev.step (fun k => ?_) ih
    simp only [q5z.l1]
    rw [if_pos (by omega), if_pos (by omega), if_pos (by omega), hrd, f1, f2, wrC j (by omega)]
    cases g with
    | true => rw [if_pos rfl, Option.bind_some, Option.bind_some, Bool.true_and]
    | false => rw [if_neg (by decide), Bool.false_and]
theorem kinds_l0 (l : List S24) (hl : Boxes l) (c : Nat) (hc : c < 4294967296) (C : List Int) (hr : C.Pairwise (fun a b : Int => a < b)) (hC : ∀ d ∈ C, 0 ≤ d ∧ d < 4294967296) (hlen : C.length ≤ 1000000) (hle : ∀ d ∈ C, alike l (c : Int) d = true → d ≤ (c : Int)) (hone : (C.filter (alike l (c : Int))).length = 1) :
    ∀ (e i : Nat), i + e = C.length → Ev (fun k => q5z.l0 k l (c : Int) C (((C.take i).filter (alike l (c : Int))).length : Int) C (C.length : Int) (i : Int)) true
  | 0, i, hi => by
    refine Ev.step (f := fun _ => some true) (fun k => ?_) (Ev.now _)
    simp only [q5z.l0]
    rw [if_neg (by omega), List.take_of_length_le (by omega), hone]
    rfl
  | e + 1, i, hi => by
    have hil : i < C.length := by omega
    have hrd := rdD C i hil
    have hd := hC C[i] (List.getElem_mem hil)
    have hdl := hle C[i] (List.getElem_mem hil)
    have ih := kinds_l0 l hl c hc C hr hC hlen hle hone e (i + 1) (by omega)
    have htk : C.take (i + 1) = C.take i ++ [C[i]] := by rw [List.take_append_getElem hil]
    rw [htk, List.filter_append, List.length_append] at ih
    have hfl : ((C.take i).filter (alike l (c : Int))).length ≤ 1000000 := by
      have h1 := List.length_filter_le (alike l (c : Int)) (C.take i)
      have h2 : (C.take i).length ≤ C.length := by simp; omega
      omega
    have hback : i > 0 → decide (C[i] ≤ rd C ((i - 1 : Nat) : Int)) = false := fun h0 => by
      rw [rdD C (i - 1) (by omega)]
      have := List.pairwise_iff_getElem.1 hr (i - 1) i (by omega) hil (by omega)
      exact decide_eq_false (by omega)
    have hj1 : Ev (fun k => q5z.j1 k l (c : Int) C (((C.take i).filter (alike l (c : Int))).length : Int) C[i] C (C.length : Int) (i : Int) false) true := by
      refine Ev.step (f := fun k => q5z.l1 k l (c : Int) C (((C.take i).filter (alike l (c : Int))).length : Int) C[i] true C (C.length : Int) (i : Int) l (l.length : Int) ((0 : Nat) : Int)) (fun k => ?_) ?_
      · simp only [q5z.j1]
        rw [if_neg (by decide)]
        rfl
      · refine kinds_l1 l hl c hc C _ C[i] hd (i : Int) true l.length 0 true (by omega) ?_
        rw [List.drop_zero, Bool.true_and]
        refine Ev.step (fun k => ?_) ih
        simp only [q5z.l1]
        rw [if_neg (by omega)]
        cases ha : alike l (c : Int) C[i] with
        | true =>
          have := hdl ha
          rw [if_pos rfl, if_neg (by omega), wrC i (by omega), wrC _ (by omega)]
          simp [ha]
        | false =>
          rw [if_neg (by decide), wrC i (by omega)]
          simp [ha]
    refine Ev.step (fun k => ?_) hj1
    simp only [q5z.l0]
    rw [if_pos (by omega), if_pos (by omega), if_pos (by omega), hrd]
    by_cases h0 : i = 0
    · rw [if_neg (by omega)]
    · rw [if_pos (by omega), wrD i (by omega) (by omega), if_pos (by omega), if_pos (by omega), hback (by omega)]
theorem filter_one (l : List S24) (c : Int) : ∀ (C : List Int), C.Pairwise (fun a b : Int => kb l a ≠ kb l b) → (∃ d ∈ C, kb l d = kb l c) → (C.filter (alike l c)).length = 1
  | [], _, h => by obtain ⟨d, hd, _⟩ := h; simp at hd
  | a :: C, hp, h => by
    rw [List.pairwise_cons] at hp
    by_cases ha : alike l c a = true
    · have hz : C.filter (alike l c) = [] := by
        rw [List.filter_eq_nil_iff]
        intro b hb hab
        exact hp.1 b hb (((alike_iff l c a).1 ha).trans ((alike_iff l c b).1 hab).symm)
      rw [List.filter_cons_of_pos ha, hz]
      rfl
    · rw [List.filter_cons_of_neg ha]
      refine filter_one l c C hp.2 ?_
      obtain ⟨d, hd, he⟩ := h
      rcases List.mem_cons.1 hd with rfl | hd
      · exact absurd ((alike_iff l c d).2 he) ha
      · exact ⟨d, hd, he⟩
theorem pure_PlaneKinds (l0 : List (S24)) (a1 : Int) (h0 : (l0.length ≤ 9223372036854775807 ∧ ∀ z_ ∈ l0, good24 z_)) (h1 : (Lit.int .u32 a1).wf = true) : ∃ k, q5z.f k l0 a1 = some true := by
  obtain ⟨c, rfl, hc⟩ := u32_nat h1
  refine (Ev.bind alive_ev (f := fun k t1 => if t1 = true then (if (l0.length : Int) > 12 then (some true) else ((plane_Cells.f k l0).bind fun bt2 => (if bt2.2 = 0 then (q5z.l0 k l0 (c : Int) bt2.1 0 bt2.1 (bt2.1.length : Int) 0) else (some false)))) else (some false)) ?_).rounds
  simp only [if_true]
  by_cases hg : (l0.length : Int) > 12
  · exact Ev.congr (fun k => if_pos hg) (Ev.now true)
  · have hl : Boxes l0 := boxes_of l0 (by omega) h0.2
    obtain ⟨s1, s2, s3, s4, s5⟩ := cellsOf_spec l0 hl
    obtain ⟨d, hd, e1, e2⟩ := s4 c hc
    have hone := filter_one l0 (c : Int) (cellsOf l0) s2 ⟨d, hd, e1⟩
    have hle : ∀ x ∈ cellsOf l0, alike l0 (c : Int) x = true → x ≤ (c : Int) := fun x hx ha => by
      have hk := (alike_iff l0 (c : Int) x).1 ha
      have hxd : x = d := by
        obtain ⟨i, hi, rfl⟩ := List.getElem_of_mem hx
        obtain ⟨j, hj, rfl⟩ := List.getElem_of_mem hd
        rcases Nat.lt_trichotomy i j with q | q | q
        · exact absurd (hk.trans e1.symm) (List.pairwise_iff_getElem.1 s2 i j hi hj q)
        · subst q; rfl
        · exact absurd (e1.trans hk.symm) (List.pairwise_iff_getElem.1 s2 j i hj hi q)
      rw [hxd]
      exact e2
    have hmain := kinds_l0 l0 hl c hc (cellsOf l0) s1 s3 s5 hle hone (cellsOf l0).length 0 (by omega)
    obtain ⟨K, hK⟩ := hmain
    refine ⟨K + 66, fun k hk => ?_⟩
    have := hK k (by omega)
    simp only [List.take_zero, List.filter_nil, List.length_nil] at this
    show (if (l0.length : Int) > 12 then (some true) else ((plane_Cells.f k l0).bind fun bt2 => (if bt2.2 = 0 then (q5z.l0 k l0 (c : Int) bt2.1 0 bt2.1 (bt2.1.length : Int) 0) else (some false)))) = some true
    rw [if_neg hg, cells_f l0 hl k (by omega), Option.bind_some]
    simp only [if_true]
    exact this
end Go.Proofs.Ytdkbfcogmlghfaa.P

namespace Go.Proofs.Ytdkbfcogmlghfaa.planeKinds
open Go.ChangeShapes Go.WideShapes Go.ChangeAt Go.RowKit
open Go.ChangeMaps (open_string shut_string)
open Go.Proofs.YtdkbfcogmlghfaaW.PrintWords Go.Proofs.YtdkbfcogmlghfaaW.PrintLast Go.Proofs.YtdkbfcogmlghfaaW.PrintMore Go.Proofs.Ytdkbfcogmlghfaa.P
set_option linter.unusedVariables false
set_option linter.unusedSimpArgs false
theorem own : ownKnob Try.prog.godebug = none := by kernel_rfl
theorem laidOut : laidOutB Try.prog = true := by kernel_rfl
set_option maxRecDepth 100000 in
theorem lifted (os : Os) (started : os.Started) (H : Type) (enc : TypeId × Value → H) :
    ReturnsInHanded {} Try.checked os 5 .any (Rows.planeKindsSpec.pre6 enc Try.prog Try.f5 Rows.planeKindsRow.domain false) (Rows.planeKindsSpec.post enc Try.prog Try.f5 false true false false) := by
  refine returnsInHanded_of_change_sized (C := Try.checked) own started (by kernel_rfl) Try.func5
    (ChangeSpec.witness6 (enc := enc) (C := Try.checked) false ⟨#[], #[.slice none 0 0, .int .u32 0], []⟩ 8 (by kernel_rfl) (by kernel_rfl) (by kernel_rfl) (by kernel_rfl)) ?_
  intro W base args ds gs before hval0 hW hcnd hsz0 _
  have hval : ∀ (j : Nat) t v, Try.f5.params[j]? = some t → args[j]? = some v → Value.okWide Try.prog W .any base t v := hval0
  have hW' := hW
  obtain ⟨p, q, hA0, hV, rfl, hfz, hnd⟩ := hW
  have hA : DataW.TrodAll enc Try.prog W 0 (fun _ => true) true Try.f5.params.toList args.toList ds p := hA0
  rw [Try.params5] at hA hval
  obtain ⟨v0, vs0, d0, ds0, p0, q0, hargs, rfl, rfl, h0, r0⟩ := trodAll_cons hA
  obtain ⟨v1, vs1, d1, ds1, p1, q1, rfl, rfl, rfl, h1, r1⟩ := trodAll_cons r0
  obtain ⟨rfl, rfl, rfl⟩ := trodAll_nil r1
  obtain rfl : args = #[v0, v1] := by cases args; simp_all
  obtain ⟨rfl, rfl⟩ := trodVars_none hV
  obtain ⟨a0, len0, cap0, rfl⟩ := okWide_slice Try.underlying30 (hval 0 30 v0 rfl rfl)
  have k0 := h0
  have lt0 : ∀ x ∈ p0, x.block < W.heap.size := by obtain ⟨m, hm⟩ := k0; exact DataW.trod_lt m _ _ _ hm
  obtain ⟨l0, hK0, hg0⟩ : ∃ l_ : List (S24), (Kd.slice 24 k24).K W l_ [.slice a0 len0 cap0] ∧ (l_.length ≤ 9223372036854775807 ∧ ∀ z_ ∈ l_, good24 z_) := by obtain ⟨fuel, hf⟩ := h0; exact (opens_slice Try.underlying30 (by kernel_rfl) opens_T24) _ _ _ (by simpa [Value.cells] using hf)
  obtain ⟨A0_, c0_, hc0, hle0, hC0⟩ := hK0
  simp only [List.cons.injEq, Value.slice.injEq, and_true] at hc0
  obtain ⟨rfl, rfl, rfl⟩ := hc0
  obtain ⟨a1, rfl, rfl, rfl, w1⟩ := open_int Try.underlying22 (hval 1 22 v1 rfl rfl) h1
  clear hA0 hval0 hsz0
  obtain ⟨k_, hk_⟩ := pure_PlaneKinds l0 a1 hg0 w1
  refine (q5z.calls k_ a0 cap0 l0 a1 true W hC0 hle0 hk_).mono fun e W' ⟨he, bel⟩ => ?_
  subst he
  exact ⟨_, rfl, _, _, _, [], _, [], hW', trodAll_mk1 (shut_bool Try.underlying4 _), (trodAll_cons_mk (Below.trod laidOut (by kernel_rfl) (of_decide_eq_true (by kernel_rfl)) k0 bel lt0) (trodAll_cons_mk (shut_int Try.underlying22 w1) trodAll_mk0)), rfl, bel.frame _, fun h => by cases h⟩
theorem over : Rows.planeKindsRow.holds Try.pinned (OpenSpec.ofChange Rows.planeKindsSpec) :=
  OpenClaim.holds_of_wide 5 Try.f5 rfl rfl rfl rfl rfl rfl rfl ⟨rfl, rfl, rfl, rfl, rfl⟩ rfl rfl rfl rfl rfl (by kernel_rfl) Try.func5 (by kernel_rfl)
    (of_decide_eq_true (by kernel_rfl)) (by unfold Func.isWrapper; first | (rw [if_pos (by decide +kernel)]; kernel_rfl) | (rw [if_neg (by decide +kernel)]; exact ⟨rfl, rfl⟩))
    (fun os started H enc _ => lifted os started H enc)
theorem proved : Rows.PlaneKindsSaid := over
end Go.Proofs.Ytdkbfcogmlghfaa.planeKinds
namespace Go.Proofs.Ytdkbfcogmlghfaa
/-- The row, under a short name, for the claim. -/
theorem planeKinds_holds : Rows.PlaneKindsSaid := planeKinds.proved
#print axioms planeKinds_holds
end Go.Proofs.Ytdkbfcogmlghfaa
