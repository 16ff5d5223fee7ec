/-
  Proved: for every input the law RouteOne answers true, and each argument reads behind the call as it read before.
  Conditions: none beside the row's own.
-/
import Derived.Lib.SlicesCompact
import Derived.Test.YthekledcoeeheaaRows
import Derived.WalkKit
import Derived.ProofKit
import Derived.OpenShut
import Derived.ShutString
import Derived.ChangeOld
import Derived.Below
import Derived.SizedLaws
import Derived.Test.YthekledcoeeheaaCRouteOne0
import Derived.Test.YthekledcoeeheaaCRouteOne1
import Derived.Test.YthekledcoeeheaaCRouteOne2
import Derived.Test.YthekledcoeeheaaCRouteOne3
namespace Go.Proofs.Ythekledcoeeheaa.P
open Go.RowKit Go.Proofs.YthekledcoeeheaaW.PrintWords Go.Proofs.YthekledcoeeheaaW.PrintLast Go.Proofs.YthekledcoeeheaaW.PrintMore
attribute [local go_sem] max2_int min2_int max_two min_two max_three min_three max_four min_four
set_option linter.unusedVariables false
set_option linter.unusedSimpArgs false

/-! ### dragomanref03_Cmp: function 38 -/
def q20z.l0 : Nat → Int → Int → Int → Int → Int → Int → Int → Int → Int → Option (Int)
 | 0, _, _, _, _, _, _, _, _, _ => none
 | k + 1, x60, x800, x801, x802, x803, x804, x805, x806, x807 => if x60 < 8 then (if 0 ≤ x60 then (if (arrA85 x800 x801 x802 x803 x804 x805 x806 x807 x60) = 0 then (q20z.l0 k (wrap64 (x60 + 1)) x800 x801 x802 x803 x804 x805 x806 x807) else (some (arrA85 x800 x801 x802 x803 x804 x805 x806 x807 x60))) else (none)) else (some 0)
def q20z.f (k : Nat) (a0_0 : Int) (a0_1 : Int) (l0_2 : List Int) (l0_3 : List Int) (a0_4 : Int) (a0_5 : Int) (a0_6 : Int) (a0_7 : Int) (a1_0 : Int) (a1_1 : Int) (l1_2 : List Int) (l1_3 : List Int) (a1_4 : Int) (a1_5 : Int) (a1_6 : Int) (a1_7 : Int) : Option (Int) := (q18z.f (wrap64 (a0_0)) (wrap64 (a1_0))).bind fun t3 => ((q18z.f a0_1 a1_1).bind fun t4 => ((q19z.f k l0_2 l1_2).bind fun t5 => ((q19z.f k l0_3 l1_3).bind fun t6 => ((q18z.f (wrap64 (a0_4)) (wrap64 (a1_4))).bind fun t7 => ((q18z.f (wrap64 (a0_5)) (wrap64 (a1_5))).bind fun t8 => ((q18z.f a0_6 a1_6).bind fun t9 => ((q18z.f (wrap64 (a0_7)) (wrap64 (a1_7))).bind fun t10 => (q20z.l0 k 0 t3 t4 t5 t6 t7 t8 t9 t10))))))))
theorem q20z.mono_l : ∀ k, (∀ y0 y1 y2 y3 y4 y5 y6 y7 y8, LeO (q20z.l0 k y0 y1 y2 y3 y4 y5 y6 y7 y8) (q20z.l0 (k + 1) y0 y1 y2 y3 y4 y5 y6 y7 y8))
 | 0 => fun _ _ _ _ _ _ _ _ _ r h => by simp [q20z.l0] at h
 | k + 1 => by
  have ih0 := q20z.mono_l k
  ·
   intro y0 y1 y2 y3 y4 y5 y6 y7 y8
   unfold q20z.l0
   repeat' first
   | (with_reducible exact ih0 _ _ _ _ _ _ _ _ _)
   | (with_reducible exact q19z.mono _ _ _)
   | (with_reducible exact LeO.refl _)
   | (with_reducible exact LeO.none _)
   | (with_reducible refine LeO.ite ?_ ?_)
   | (with_reducible refine LeO.bind ?_ (fun _ => ?_))
   | exact ih0 _ _ _ _ _ _ _ _ _
   | exact q19z.mono _ _ _
   | exact LeO.none _
   | refine LeO.ite ?_ ?_
   | refine LeO.bind ?_ (fun _ => ?_)
theorem q20z.mono : ∀ a0 a1 a2 a3 a4 a5 a6 a7 a8 a9 a10 a11 a12 a13 a14 a15 k, LeO (q20z.f k a0 a1 a2 a3 a4 a5 a6 a7 a8 a9 a10 a11 a12 a13 a14 a15) (q20z.f (k + 1) a0 a1 a2 a3 a4 a5 a6 a7 a8 a9 a10 a11 a12 a13 a14 a15) := by
 intro a0 a1 a2 a3 a4 a5 a6 a7 a8 a9 a10 a11 a12 a13 a14 a15 k
 have ih0 := q20z.mono_l k
 unfold q20z.f
 repeat' first
   | (with_reducible exact ih0 _ _ _ _ _ _ _ _ _)
   | (with_reducible exact q19z.mono _ _ _)
   | (with_reducible exact LeO.refl _)
   | (with_reducible exact LeO.none _)
   | (with_reducible refine LeO.ite ?_ ?_)
   | (with_reducible refine LeO.bind ?_ (fun _ => ?_))
   | exact ih0 _ _ _ _ _ _ _ _ _
   | exact q19z.mono _ _ _
   | exact LeO.none _
   | refine LeO.ite ?_ ?_
   | refine LeO.bind ?_ (fun _ => ?_)
def q20z.T1 : Bool × List (List Nat × List Nat) := (true, [([], []), ([0], [0]), ([1], [1]), ([2], [2]), ([], []), ([4], [4]), ([5], [5]), ([6], [6]), ([3, 7], [3, 7]), ([], []), ([9], [9]), ([10], [10]), ([], []), ([12], [12]), ([13], [13]), ([11, 14, 8], [11, 14]), ([], []), ([16], [16]), ([], []), ([18], [18]), ([17, 19, 15], [17, 19]), ([], []), ([21], [21]), ([], []), ([23], [23]), ([22, 24, 20], [22, 24]), ([], []), ([26], [26]), ([27], [27]), ([], []), ([29], [29]), ([30], [30]), ([28, 31, 25], [28, 31]), ([], []), ([33], [33]), ([34], [34]), ([], []), ([36], [36]), ([37], [37]), ([35, 38, 32], [35, 38]), ([], []), ([40], [40]), ([], []), ([42], [42]), ([41, 43, 39], [41, 43]), ([], []), ([45], [45]), ([46], [46]), ([], []), ([48], [48]), ([49], [49]), ([47, 50, 44], [47, 50]), ([8, 15, 20, 25, 32, 39, 44, 51], [8, 15, 20, 25, 32, 39, 44, 51]), ([], [])])
def q20z.B1 : List Nat := [0, 1, 3, 7, 0, 16, 48, 112, 255, 0, 512, 1536, 0, 4096, 12288, 32767, 0, 65536, 0, 262144, 1048575, 0, 2097152, 0, 8388608, 33554431, 0, 67108864, 201326592, 0, 536870912, 1610612736, 4294967295, 0, 8589934592, 25769803776, 0, 68719476736, 206158430208, 549755813887, 0, 1099511627776, 0, 4398046511104, 17592186044415, 0, 35184372088832, 105553116266496, 0, 281474976710656, 844424930131968, 2251799813685247, 4503599627370495, 0]
theorem q20z.tab1 : rtab .any (opsOf Try.f38 1) = q20z.T1 := by kernel_rfl
theorem q20z.bits1 : waitsOk q20z.T1.2 q20z.B1 = true := by kernel_rfl
set_option maxHeartbeats 8000000 in
set_option maxRecDepth 100000 in
theorem q20z.calls (k : Nat) (a0_0 : Int) (a0_1 : Int) (A0_2 : Option Addr) (c0_2 : Nat) (l0_2 : List Int) (A0_3 : Option Addr) (c0_3 : Nat) (l0_3 : List Int) (a0_4 : Int) (a0_5 : Int) (a0_6 : Int) (a0_7 : Int) (a1_0 : Int) (a1_1 : Int) (A1_2 : Option Addr) (c1_2 : Nat) (l1_2 : List Int) (A1_3 : Option Addr) (c1_3 : Nat) (l1_3 : List Int) (a1_4 : Int) (a1_5 : Int) (a1_6 : Int) (a1_7 : Int) (r : Int) (w : World) (hr0_2 : Kd.C (Kd.int .u32) w A0_2 l0_2.length l0_2) (hc0_2 : l0_2.length ≤ c0_2) (hr0_3 : Kd.C (Kd.int .u32) w A0_3 l0_3.length l0_3) (hc0_3 : l0_3.length ≤ c0_3) (hr1_2 : Kd.C (Kd.int .u32) w A1_2 l1_2.length l1_2) (hc1_2 : l1_2.length ≤ c1_2) (hr1_3 : Kd.C (Kd.int .u32) w A1_3 l1_3.length l1_3) (hc1_3 : l1_3.length ≤ c1_3) (h : q20z.f k a0_0 a0_1 l0_2 l0_3 a0_4 a0_5 a0_6 a0_7 a1_0 a1_1 l1_2 l1_3 a1_4 a1_5 a1_6 a1_7 = some r) :
  Calls Try.prog 38 #[.agg #[.int .u32 a0_0, .int .i64 a0_1, .slice A0_2 l0_2.length c0_2, .slice A0_3 l0_3.length c0_3, .int .u32 a0_4, .int .u32 a0_5, .int .i64 a0_6, .int .u32 a0_7], .agg #[.int .u32 a1_0, .int .i64 a1_1, .slice A1_2 l1_2.length c1_2, .slice A1_3 l1_3.length c1_3, .int .u32 a1_4, .int .u32 a1_5, .int .i64 a1_6, .int .u32 a1_7]] w fun e w' => e = .returned (.int .i64 r) ∧ Below w.heap.size w w' := by
 have hu38 := Try.underlying38
 have hu85 := Try.underlying85
 have HR0_2 := Aside0.mk hr0_2
 have HC0_2 := Aside0.mk hc0_2
 clear hr0_2 hc0_2
 have HR0_3 := Aside0.mk hr0_3
 have HC0_3 := Aside0.mk hc0_3
 clear hr0_3 hc0_3
 have HR1_2 := Aside0.mk hr1_2
 have HC1_2 := Aside0.mk hc1_2
 clear hr1_2 hc1_2
 have HR1_3 := Aside0.mk hr1_3
 have HC1_3 := Aside0.mk hc1_3
 clear hr1_3 hc1_3
 have HB := Aside0.mk (Below.refl w.heap.size w)
 have H : ((q18z.f (wrap64 (a0_0)) (wrap64 (a1_0))).bind fun t3 => ((q18z.f a0_1 a1_1).bind fun t4 => ((q19z.f k l0_2 l1_2).bind fun t5 => ((q19z.f k l0_3 l1_3).bind fun t6 => ((q18z.f (wrap64 (a0_4)) (wrap64 (a1_4))).bind fun t7 => ((q18z.f (wrap64 (a0_5)) (wrap64 (a1_5))).bind fun t8 => ((q18z.f a0_6 a1_6).bind fun t9 => ((q18z.f (wrap64 (a0_7)) (wrap64 (a1_7))).bind fun t10 => (q20z.l0 k 0 t3 t4 t5 t6 t7 t8 t9 t10))))))))) = some r := h
 clear h
 replace H := Option.bind_eq_some_iff.mp H
 obtain ⟨t3, A30, H⟩ := H
 replace H : ((q18z.f a0_1 a1_1).bind fun t4 => ((q19z.f k l0_2 l1_2).bind fun t5 => ((q19z.f k l0_3 l1_3).bind fun t6 => ((q18z.f (wrap64 (a0_4)) (wrap64 (a1_4))).bind fun t7 => ((q18z.f (wrap64 (a0_5)) (wrap64 (a1_5))).bind fun t8 => ((q18z.f a0_6 a1_6).bind fun t9 => ((q18z.f (wrap64 (a0_7)) (wrap64 (a1_7))).bind fun t10 => (q20z.l0 k 0 t3 t4 t5 t6 t7 t8 t9 t10)))))))) = some r := H
 have A3 := Aside0.mk A30
 clear A30
 replace H := Option.bind_eq_some_iff.mp H
 obtain ⟨t4, A40, H⟩ := H
 replace H : ((q19z.f k l0_2 l1_2).bind fun t5 => ((q19z.f k l0_3 l1_3).bind fun t6 => ((q18z.f (wrap64 (a0_4)) (wrap64 (a1_4))).bind fun t7 => ((q18z.f (wrap64 (a0_5)) (wrap64 (a1_5))).bind fun t8 => ((q18z.f a0_6 a1_6).bind fun t9 => ((q18z.f (wrap64 (a0_7)) (wrap64 (a1_7))).bind fun t10 => (q20z.l0 k 0 t3 t4 t5 t6 t7 t8 t9 t10))))))) = some r := H
 have A4 := Aside0.mk A40
 clear A40
 replace H := Option.bind_eq_some_iff.mp H
 obtain ⟨t5, A50, H⟩ := H
 replace H : ((q19z.f k l0_3 l1_3).bind fun t6 => ((q18z.f (wrap64 (a0_4)) (wrap64 (a1_4))).bind fun t7 => ((q18z.f (wrap64 (a0_5)) (wrap64 (a1_5))).bind fun t8 => ((q18z.f a0_6 a1_6).bind fun t9 => ((q18z.f (wrap64 (a0_7)) (wrap64 (a1_7))).bind fun t10 => (q20z.l0 k 0 t3 t4 t5 t6 t7 t8 t9 t10)))))) = some r := H
 have A5 := Aside0.mk A50
 clear A50
 replace H := Option.bind_eq_some_iff.mp H
 obtain ⟨t6, A60, H⟩ := H
 replace H : ((q18z.f (wrap64 (a0_4)) (wrap64 (a1_4))).bind fun t7 => ((q18z.f (wrap64 (a0_5)) (wrap64 (a1_5))).bind fun t8 => ((q18z.f a0_6 a1_6).bind fun t9 => ((q18z.f (wrap64 (a0_7)) (wrap64 (a1_7))).bind fun t10 => (q20z.l0 k 0 t3 t4 t5 t6 t7 t8 t9 t10))))) = some r := H
 have A6 := Aside0.mk A60
 clear A60
 replace H := Option.bind_eq_some_iff.mp H
 obtain ⟨t7, A70, H⟩ := H
 replace H : ((q18z.f (wrap64 (a0_5)) (wrap64 (a1_5))).bind fun t8 => ((q18z.f a0_6 a1_6).bind fun t9 => ((q18z.f (wrap64 (a0_7)) (wrap64 (a1_7))).bind fun t10 => (q20z.l0 k 0 t3 t4 t5 t6 t7 t8 t9 t10)))) = some r := H
 have A7 := Aside0.mk A70
 clear A70
 replace H := Option.bind_eq_some_iff.mp H
 obtain ⟨t8, A80, H⟩ := H
 replace H : ((q18z.f a0_6 a1_6).bind fun t9 => ((q18z.f (wrap64 (a0_7)) (wrap64 (a1_7))).bind fun t10 => (q20z.l0 k 0 t3 t4 t5 t6 t7 t8 t9 t10))) = some r := H
 have A8 := Aside0.mk A80
 clear A80
 replace H := Option.bind_eq_some_iff.mp H
 obtain ⟨t9, A90, H⟩ := H
 replace H : ((q18z.f (wrap64 (a0_7)) (wrap64 (a1_7))).bind fun t10 => (q20z.l0 k 0 t3 t4 t5 t6 t7 t8 t9 t10)) = some r := H
 have A9 := Aside0.mk A90
 clear A90
 replace H := Option.bind_eq_some_iff.mp H
 obtain ⟨t10, A100, H⟩ := H
 replace H : (q20z.l0 k 0 t3 t4 t5 t6 t7 t8 t9 t10) = some r := H
 have A10 := Aside0.mk A100
 clear A100
 have H' := Aside0.mk H
 clear H
 go_enter Try.func38, Try.ntmps38
 try go_wp2_with (first | ((with_reducible refine gate_dst (N := 2) rfl ?_); refine box_event ?hg (N := 2) ?hd (cs := #[.int .u32 a0_0, .int .i64 a0_1, .slice A0_2 l0_2.length c0_2, .slice A0_3 l0_3.length c0_3, .int .u32 a0_4, .int .u32 a0_5, .int .i64 a0_6, .int .u32 a0_7]) (t := 38) ?hr ?_; (case hd => rfl); (case hg => rfl); (case hr => first | (go_simp; done) | (go_simp; rfl)); intro gb1 hg w11 hbox hb; have n0_ := Aside0.mk (below_step (by repeat (first | (with_reducible first | exact HB.out | apply below_alloc | apply pw_below_drewN | apply below_drew1) | exact HB.out)) hb); have n1_ := Aside0.mk (hbox); have n2_ := Aside0.mk ((by rw [hg]; exact (below_size (by repeat (first | (with_reducible first | exact HB.out | apply below_alloc | apply pw_below_drewN | apply below_drew1) | exact HB.out))) : w.heap.size ≤ gb1)); have n3_ := Aside0.mk ((by rw [hg]; exact (below_size (by repeat (first | (with_reducible first | exact HB.out | apply below_alloc | apply pw_below_drewN | apply below_drew1) | exact HB.out))) : w.heap.size ≤ gb1)); clear HB; have HB := n0_; have BK1 := n1_; have GW1 := n2_; have GE1 := n3_; clear n0_ n1_ n2_ n3_; clear hb hbox hg) | ((with_reducible refine gate_dst (N := 3) rfl ?_); refine box_event ?hg (N := 3) ?hd (cs := #[.int .u32 a1_0, .int .i64 a1_1, .slice A1_2 l1_2.length c1_2, .slice A1_3 l1_3.length c1_3, .int .u32 a1_4, .int .u32 a1_5, .int .i64 a1_6, .int .u32 a1_7]) (t := 38) ?hr ?_; (case hd => rfl); (case hg => rfl); (case hr => first | (go_simp; done) | (go_simp; rfl)); intro gb2 hg w12 hbox hb; have n0_ := Aside0.mk (blk_below (g := gb1) (o := .cells #[.int .u32 a0_0, .int .i64 a0_1, .slice A0_2 l0_2.length c0_2, .slice A0_3 l0_3.length c0_3, .int .u32 a0_4, .int .u32 a0_5, .int .i64 a0_6, .int .u32 a0_7] 38 (0, 0)) (by (with_reducible repeat (first | refine blk_drewN ?_ _ | refine blk_drew ?_ | refine blk_alloc ?_ _)); exact BK1.out) hb); have n1_ := Aside0.mk (below_step (by repeat (first | (with_reducible first | exact HB.out | apply below_alloc | apply pw_below_drewN | apply below_drew1 | refine below_set ?_ GE1.out) | exact HB.out)) hb); have n2_ := Aside0.mk (hbox); have n3_ := Aside0.mk ((by rw [hg]; exact (below_size (by repeat (first | (with_reducible first | exact HB.out | apply below_alloc | apply pw_below_drewN | apply below_drew1 | refine below_set ?_ GE1.out) | exact HB.out))) : w.heap.size ≤ gb2)); have n4_ := Aside0.mk ((by rw [hg]; exact (below_size (by repeat (first | (with_reducible first | exact HB.out | apply below_alloc | apply pw_below_drewN | apply below_drew1 | refine below_set ?_ GE1.out) | exact HB.out))) : w.heap.size ≤ gb2)); have n5_ := Aside0.mk ((by rw [hg]; exact Nat.ne_of_lt (blk_lt (g := gb1) (o := .cells #[.int .u32 a0_0, .int .i64 a0_1, .slice A0_2 l0_2.length c0_2, .slice A0_3 l0_3.length c0_3, .int .u32 a0_4, .int .u32 a0_5, .int .i64 a0_6, .int .u32 a0_7] 38 (0, 0)) (by (with_reducible repeat (first | refine blk_drewN ?_ _ | refine blk_drew ?_ | refine blk_alloc ?_ _)); exact BK1.out)) : gb1 ≠ gb2)); have n6_ := Aside0.mk ((by rw [hg]; exact Nat.ne_of_gt (blk_lt (g := gb1) (o := .cells #[.int .u32 a0_0, .int .i64 a0_1, .slice A0_2 l0_2.length c0_2, .slice A0_3 l0_3.length c0_3, .int .u32 a0_4, .int .u32 a0_5, .int .i64 a0_6, .int .u32 a0_7] 38 (0, 0)) (by (with_reducible repeat (first | refine blk_drewN ?_ _ | refine blk_drew ?_ | refine blk_alloc ?_ _)); exact BK1.out)) : gb2 ≠ gb1)); clear BK1; clear HB; have BK1 := n0_; have HB := n1_; have BK2 := n2_; have GW2 := n3_; have GE2 := n4_; have NB1_2 := n5_; have NB2_1 := n6_; clear n0_ n1_ n2_ n3_ n4_ n5_ n6_; clear hb hbox hg))
 have n0_ := Aside0.mk (blk_drew BK1.out)
 have n1_ := Aside0.mk (blk_drew BK2.out)
 have n2_ := Aside0.mk (below_drew1 HB.out)
 clear BK1
 clear BK2
 clear HB
 have BK1 := n0_
 have BK2 := n1_
 have HB := n2_
 clear n0_ n1_ n2_
 refine start_ (n := 54) (S := fun w' => w'.cell? ⟨gb1, 0, none⟩ = some (.int .u32 a0_0) ∧ w'.cell? ⟨gb1, 1, none⟩ = some (.int .i64 a0_1) ∧ w'.cell? ⟨gb1, 2, none⟩ = some (.slice A0_2 l0_2.length c0_2) ∧ w'.cell? ⟨gb1, 3, none⟩ = some (.slice A0_3 l0_3.length c0_3) ∧ w'.cell? ⟨gb1, 4, none⟩ = some (.int .u32 a0_4) ∧ w'.cell? ⟨gb1, 5, none⟩ = some (.int .u32 a0_5) ∧ w'.cell? ⟨gb1, 6, none⟩ = some (.int .i64 a0_6) ∧ w'.cell? ⟨gb1, 7, none⟩ = some (.int .u32 a0_7) ∧ w'.cell? ⟨gb2, 0, none⟩ = some (.int .u32 a1_0) ∧ w'.cell? ⟨gb2, 1, none⟩ = some (.int .i64 a1_1) ∧ w'.cell? ⟨gb2, 2, none⟩ = some (.slice A1_2 l1_2.length c1_2) ∧ w'.cell? ⟨gb2, 3, none⟩ = some (.slice A1_3 l1_3.length c1_3) ∧ w'.cell? ⟨gb2, 4, none⟩ = some (.int .u32 a1_4) ∧ w'.cell? ⟨gb2, 5, none⟩ = some (.int .u32 a1_5) ∧ w'.cell? ⟨gb2, 6, none⟩ = some (.int .i64 a1_6) ∧ w'.cell? ⟨gb2, 7, none⟩ = some (.int .u32 a1_7)) (ds := []) #[false, false, false, false, false, false, false, false, false, false, false, false, false, false, false, false, false, false, false, false, false, false, false, false, false, false, false, false, false, false, false, false, false, false, false, false, false, false, false, false, false, false, false, false, false, false, false, false, false, false, false, false, false, false] (by kernel_rfl) rfl rfl ⟨(blk_cell BK1.out 0).trans rfl, (blk_cell BK1.out 1).trans rfl, (blk_cell BK1.out 2).trans rfl, (blk_cell BK1.out 3).trans rfl, (blk_cell BK1.out 4).trans rfl, (blk_cell BK1.out 5).trans rfl, (blk_cell BK1.out 6).trans rfl, (blk_cell BK1.out 7).trans rfl, (blk_cell BK2.out 0).trans rfl, (blk_cell BK2.out 1).trans rfl, (blk_cell BK2.out 2).trans rfl, (blk_cell BK2.out 3).trans rfl, (blk_cell BK2.out 4).trans rfl, (blk_cell BK2.out 5).trans rfl, (blk_cell BK2.out 6).trans rfl, (blk_cell BK2.out 7).trans rfl⟩ (fun hHeld => ?_); refine with_tabW q20z.tab1 q20z.bits1 (fun HT_ HW_ => ?_)
 generalize w12.drew = w13 at BK1 BK2 HB hHeld ⊢
 refine pure_ (i := 0) (N := some 7) (v := ?_) (a' := ?_) #[true, false, false, false, false, false, false, false, false, false, false, false, false, false, false, false, false, false, false, false, false, false, false, false, false, false, false, false, false, false, false, false, false, false, false, false, false, false, false, false, false, false, false, false, false, false, false, false, false, false, false, false, false, false] rfl rfl (any_of HT_.out (by kernel_rfl)) (fun _ _ _ h => h) (Or.inl ⟨by rfl, ?_⟩) ?_ ?_
 rotate_left
 ·
  intro w'
  go_simp
  with_reducible rfl
 rotate_left
 ·
  simp only [Act.put, List.setIfInBounds_toArray, List.set_cons_zero, List.set_cons_succ, i64_w, i32_w, IntKind.wrap_u32]
  rfl
 refine pure_ (i := 1) (N := some 8) (v := ?_) (a' := ?_) #[true, true, false, false, false, false, false, false, false, false, false, false, false, false, false, false, false, false, false, false, false, false, false, false, false, false, false, false, false, false, false, false, false, false, false, false, false, false, false, false, false, false, false, false, false, false, false, false, false, false, false, false, false, false] rfl rfl (any_of HT_.out (by kernel_rfl)) (fun _ _ _ h => h) (Or.inl ⟨by rfl, ?_⟩) ?_ ?_
 rotate_left
 ·
  intro w'
  go_simp
  with_reducible rfl
 rotate_left
 ·
  simp only [Act.put, List.setIfInBounds_toArray, List.set_cons_zero, List.set_cons_succ, i64_w, i32_w, IntKind.wrap_u32]
  rfl
 refine pure_ (i := 4) (N := some 11) (v := ?_) (a' := ?_) #[true, true, false, false, true, false, false, false, false, false, false, false, false, false, false, false, false, false, false, false, false, false, false, false, false, false, false, false, false, false, false, false, false, false, false, false, false, false, false, false, false, false, false, false, false, false, false, false, false, false, false, false, false, false] rfl rfl (any_of HT_.out (by kernel_rfl)) (fun _ _ _ h => h) (Or.inl ⟨by rfl, ?_⟩) ?_ ?_
 rotate_left
 ·
  intro w'
  go_simp
  with_reducible rfl
 rotate_left
 ·
  simp only [Act.put, List.setIfInBounds_toArray, List.set_cons_zero, List.set_cons_succ, i64_w, i32_w, IntKind.wrap_u32]
  rfl
 refine pure_ (i := 5) (N := some 12) (v := ?_) (a' := ?_) #[true, true, false, false, true, true, false, false, false, false, false, false, false, false, false, false, false, false, false, false, false, false, false, false, false, false, false, false, false, false, false, false, false, false, false, false, false, false, false, false, false, false, false, false, false, false, false, false, false, false, false, false, false, false] rfl rfl (any_of HT_.out (by kernel_rfl)) (fun _ _ _ h => h) (Or.inl ⟨by rfl, ?_⟩) ?_ ?_
 rotate_left
 ·
  intro w'
  go_simp
  with_reducible rfl
 rotate_left
 ·
  simp only [Act.put, List.setIfInBounds_toArray, List.set_cons_zero, List.set_cons_succ, i64_w, i32_w, IntKind.wrap_u32]
  rfl
 refine pure_ (i := 9) (N := some 16) (v := ?_) (a' := ?_) #[true, true, false, false, true, true, false, false, false, true, false, false, false, false, false, false, false, false, false, false, false, false, false, false, false, false, false, false, false, false, false, false, false, false, false, false, false, false, false, false, false, false, false, false, false, false, false, false, false, false, false, false, false, false] rfl rfl (any_of HT_.out (by kernel_rfl)) (fun _ _ _ h => h) (Or.inl ⟨by rfl, ?_⟩) ?_ ?_
 rotate_left
 ·
  intro w'
  go_simp
  with_reducible rfl
 rotate_left
 ·
  simp only [Act.put, List.setIfInBounds_toArray, List.set_cons_zero, List.set_cons_succ, i64_w, i32_w, IntKind.wrap_u32]
  rfl
 refine pure_ (i := 10) (N := some 17) (v := ?_) (a' := ?_) #[true, true, false, false, true, true, false, false, false, true, true, false, false, false, false, false, false, false, false, false, false, false, false, false, false, false, false, false, false, false, false, false, false, false, false, false, false, false, false, false, false, false, false, false, false, false, false, false, false, false, false, false, false, false] rfl rfl (any_of HT_.out (by kernel_rfl)) (fun _ _ _ h => h) (Or.inl ⟨by rfl, ?_⟩) ?_ ?_
 rotate_left
 ·
  intro w'
  go_simp
  with_reducible rfl
 rotate_left
 ·
  simp only [Act.put, List.setIfInBounds_toArray, List.set_cons_zero, List.set_cons_succ, i64_w, i32_w, IntKind.wrap_u32]
  rfl
 refine pure_ (i := 12) (N := some 19) (v := ?_) (a' := ?_) #[true, true, false, false, true, true, false, false, false, true, true, false, true, false, false, false, false, false, false, false, false, false, false, false, false, false, false, false, false, false, false, false, false, false, false, false, false, false, false, false, false, false, false, false, false, false, false, false, false, false, false, false, false, false] rfl rfl (any_of HT_.out (by kernel_rfl)) (fun _ _ _ h => h) (Or.inl ⟨by rfl, ?_⟩) ?_ ?_
 rotate_left
 ·
  intro w'
  go_simp
  with_reducible rfl
 rotate_left
 ·
  simp only [Act.put, List.setIfInBounds_toArray, List.set_cons_zero, List.set_cons_succ, i64_w, i32_w, IntKind.wrap_u32]
  rfl
 refine pure_ (i := 13) (N := some 20) (v := ?_) (a' := ?_) #[true, true, false, false, true, true, false, false, false, true, true, false, true, true, false, false, false, false, false, false, false, false, false, false, false, false, false, false, false, false, false, false, false, false, false, false, false, false, false, false, false, false, false, false, false, false, false, false, false, false, false, false, false, false] rfl rfl (any_of HT_.out (by kernel_rfl)) (fun _ _ _ h => h) (Or.inl ⟨by rfl, ?_⟩) ?_ ?_
 rotate_left
 ·
  intro w'
  go_simp
  with_reducible rfl
 rotate_left
 ·
  simp only [Act.put, List.setIfInBounds_toArray, List.set_cons_zero, List.set_cons_succ, i64_w, i32_w, IntKind.wrap_u32]
  rfl
 refine pure_ (i := 16) (N := some 23) (v := ?_) (a' := ?_) #[true, true, false, false, true, true, false, false, false, true, true, false, true, true, false, false, true, false, false, false, false, false, false, false, false, false, false, false, false, false, false, false, false, false, false, false, false, false, false, false, false, false, false, false, false, false, false, false, false, false, false, false, false, false] rfl rfl (any_of HT_.out (by kernel_rfl)) (fun _ _ _ h => h) (Or.inl ⟨by rfl, ?_⟩) ?_ ?_
 rotate_left
 ·
  intro w'
  go_simp
  with_reducible rfl
 rotate_left
 ·
  simp only [Act.put, List.setIfInBounds_toArray, List.set_cons_zero, List.set_cons_succ, i64_w, i32_w, IntKind.wrap_u32]
  rfl
 refine pure_ (i := 18) (N := some 25) (v := ?_) (a' := ?_) #[true, true, false, false, true, true, false, false, false, true, true, false, true, true, false, false, true, false, true, false, false, false, false, false, false, false, false, false, false, false, false, false, false, false, false, false, false, false, false, false, false, false, false, false, false, false, false, false, false, false, false, false, false, false] rfl rfl (any_of HT_.out (by kernel_rfl)) (fun _ _ _ h => h) (Or.inl ⟨by rfl, ?_⟩) ?_ ?_
 rotate_left
 ·
  intro w'
  go_simp
  with_reducible rfl
 rotate_left
 ·
  simp only [Act.put, List.setIfInBounds_toArray, List.set_cons_zero, List.set_cons_succ, i64_w, i32_w, IntKind.wrap_u32]
  rfl
 refine pure_ (i := 21) (N := some 28) (v := ?_) (a' := ?_) #[true, true, false, false, true, true, false, false, false, true, true, false, true, true, false, false, true, false, true, false, false, true, false, false, false, false, false, false, false, false, false, false, false, false, false, false, false, false, false, false, false, false, false, false, false, false, false, false, false, false, false, false, false, false] rfl rfl (any_of HT_.out (by kernel_rfl)) (fun _ _ _ h => h) (Or.inl ⟨by rfl, ?_⟩) ?_ ?_
 rotate_left
 ·
  intro w'
  go_simp
  with_reducible rfl
 rotate_left
 ·
  simp only [Act.put, List.setIfInBounds_toArray, List.set_cons_zero, List.set_cons_succ, i64_w, i32_w, IntKind.wrap_u32]
  rfl
 refine pure_ (i := 23) (N := some 30) (v := ?_) (a' := ?_) #[true, true, false, false, true, true, false, false, false, true, true, false, true, true, false, false, true, false, true, false, false, true, false, true, false, false, false, false, false, false, false, false, false, false, false, false, false, false, false, false, false, false, false, false, false, false, false, false, false, false, false, false, false, false] rfl rfl (any_of HT_.out (by kernel_rfl)) (fun _ _ _ h => h) (Or.inl ⟨by rfl, ?_⟩) ?_ ?_
 rotate_left
 ·
  intro w'
  go_simp
  with_reducible rfl
 rotate_left
 ·
  simp only [Act.put, List.setIfInBounds_toArray, List.set_cons_zero, List.set_cons_succ, i64_w, i32_w, IntKind.wrap_u32]
  rfl
 refine pure_ (i := 26) (N := some 33) (v := ?_) (a' := ?_) #[true, true, false, false, true, true, false, false, false, true, true, false, true, true, false, false, true, false, true, false, false, true, false, true, false, false, true, false, false, false, false, false, false, false, false, false, false, false, false, false, false, false, false, false, false, false, false, false, false, false, false, false, false, false] rfl rfl (any_of HT_.out (by kernel_rfl)) (fun _ _ _ h => h) (Or.inl ⟨by rfl, ?_⟩) ?_ ?_
 rotate_left
 ·
  intro w'
  go_simp
  with_reducible rfl
 rotate_left
 ·
  simp only [Act.put, List.setIfInBounds_toArray, List.set_cons_zero, List.set_cons_succ, i64_w, i32_w, IntKind.wrap_u32]
  rfl
 refine pure_ (i := 29) (N := some 36) (v := ?_) (a' := ?_) #[true, true, false, false, true, true, false, false, false, true, true, false, true, true, false, false, true, false, true, false, false, true, false, true, false, false, true, false, false, true, false, false, false, false, false, false, false, false, false, false, false, false, false, false, false, false, false, false, false, false, false, false, false, false] rfl rfl (any_of HT_.out (by kernel_rfl)) (fun _ _ _ h => h) (Or.inl ⟨by rfl, ?_⟩) ?_ ?_
 rotate_left
 ·
  intro w'
  go_simp
  with_reducible rfl
 rotate_left
 ·
  simp only [Act.put, List.setIfInBounds_toArray, List.set_cons_zero, List.set_cons_succ, i64_w, i32_w, IntKind.wrap_u32]
  rfl
 refine pure_ (i := 33) (N := some 40) (v := ?_) (a' := ?_) #[true, true, false, false, true, true, false, false, false, true, true, false, true, true, false, false, true, false, true, false, false, true, false, true, false, false, true, false, false, true, false, false, false, true, false, false, false, false, false, false, false, false, false, false, false, false, false, false, false, false, false, false, false, false] rfl rfl (any_of HT_.out (by kernel_rfl)) (fun _ _ _ h => h) (Or.inl ⟨by rfl, ?_⟩) ?_ ?_
 rotate_left
 ·
  intro w'
  go_simp
  with_reducible rfl
 rotate_left
 ·
  simp only [Act.put, List.setIfInBounds_toArray, List.set_cons_zero, List.set_cons_succ, i64_w, i32_w, IntKind.wrap_u32]
  rfl
 refine pure_ (i := 36) (N := some 43) (v := ?_) (a' := ?_) #[true, true, false, false, true, true, false, false, false, true, true, false, true, true, false, false, true, false, true, false, false, true, false, true, false, false, true, false, false, true, false, false, false, true, false, false, true, false, false, false, false, false, false, false, false, false, false, false, false, false, false, false, false, false] rfl rfl (any_of HT_.out (by kernel_rfl)) (fun _ _ _ h => h) (Or.inl ⟨by rfl, ?_⟩) ?_ ?_
 rotate_left
 ·
  intro w'
  go_simp
  with_reducible rfl
 rotate_left
 ·
  simp only [Act.put, List.setIfInBounds_toArray, List.set_cons_zero, List.set_cons_succ, i64_w, i32_w, IntKind.wrap_u32]
  rfl
 refine pure_ (i := 40) (N := some 47) (v := ?_) (a' := ?_) #[true, true, false, false, true, true, false, false, false, true, true, false, true, true, false, false, true, false, true, false, false, true, false, true, false, false, true, false, false, true, false, false, false, true, false, false, true, false, false, false, true, false, false, false, false, false, false, false, false, false, false, false, false, false] rfl rfl (any_of HT_.out (by kernel_rfl)) (fun _ _ _ h => h) (Or.inl ⟨by rfl, ?_⟩) ?_ ?_
 rotate_left
 ·
  intro w'
  go_simp
  with_reducible rfl
 rotate_left
 ·
  simp only [Act.put, List.setIfInBounds_toArray, List.set_cons_zero, List.set_cons_succ, i64_w, i32_w, IntKind.wrap_u32]
  rfl
 refine pure_ (i := 42) (N := some 49) (v := ?_) (a' := ?_) #[true, true, false, false, true, true, false, false, false, true, true, false, true, true, false, false, true, false, true, false, false, true, false, true, false, false, true, false, false, true, false, false, false, true, false, false, true, false, false, false, true, false, true, false, false, false, false, false, false, false, false, false, false, false] rfl rfl (any_of HT_.out (by kernel_rfl)) (fun _ _ _ h => h) (Or.inl ⟨by rfl, ?_⟩) ?_ ?_
 rotate_left
 ·
  intro w'
  go_simp
  with_reducible rfl
 rotate_left
 ·
  simp only [Act.put, List.setIfInBounds_toArray, List.set_cons_zero, List.set_cons_succ, i64_w, i32_w, IntKind.wrap_u32]
  rfl
 refine pure_ (i := 45) (N := some 52) (v := ?_) (a' := ?_) #[true, true, false, false, true, true, false, false, false, true, true, false, true, true, false, false, true, false, true, false, false, true, false, true, false, false, true, false, false, true, false, false, false, true, false, false, true, false, false, false, true, false, true, false, false, true, false, false, false, false, false, false, false, false] rfl rfl (any_of HT_.out (by kernel_rfl)) (fun _ _ _ h => h) (Or.inl ⟨by rfl, ?_⟩) ?_ ?_
 rotate_left
 ·
  intro w'
  go_simp
  with_reducible rfl
 rotate_left
 ·
  simp only [Act.put, List.setIfInBounds_toArray, List.set_cons_zero, List.set_cons_succ, i64_w, i32_w, IntKind.wrap_u32]
  rfl
 refine pure_ (i := 48) (N := some 55) (v := ?_) (a' := ?_) #[true, true, false, false, true, true, false, false, false, true, true, false, true, true, false, false, true, false, true, false, false, true, false, true, false, false, true, false, false, true, false, false, false, true, false, false, true, false, false, false, true, false, true, false, false, true, false, false, true, false, false, false, false, false] rfl rfl (any_of HT_.out (by kernel_rfl)) (fun _ _ _ h => h) (Or.inl ⟨by rfl, ?_⟩) ?_ ?_
 rotate_left
 ·
  intro w'
  go_simp
  with_reducible rfl
 rotate_left
 ·
  simp only [Act.put, List.setIfInBounds_toArray, List.set_cons_zero, List.set_cons_succ, i64_w, i32_w, IntKind.wrap_u32]
  rfl
 refine pure_ (i := 53) (N := some 60) (v := ?_) (a' := ?_) #[true, true, false, false, true, true, false, false, false, true, true, false, true, true, false, false, true, false, true, false, false, true, false, true, false, false, true, false, false, true, false, false, false, true, false, false, true, false, false, false, true, false, true, false, false, true, false, false, true, false, false, false, false, true] rfl rfl (any_of HT_.out (by kernel_rfl)) (fun _ _ _ h => h) (Or.inl ⟨by rfl, ?_⟩) ?_ ?_
 rotate_left
 ·
  intro w'
  go_simp
  with_reducible rfl
 rotate_left
 ·
  simp only [Act.put, List.setIfInBounds_toArray, List.set_cons_zero, List.set_cons_succ, i64_w, i32_w, IntKind.wrap_u32]
  rfl
 refine take_ (i := 2) (N := some 9) (v := ?_) (a' := ?_) #[true, true, true, false, true, true, false, false, false, true, true, false, true, true, false, false, true, false, true, false, false, true, false, true, false, false, true, false, false, true, false, false, false, true, false, false, true, false, false, false, true, false, true, false, false, true, false, false, true, false, false, false, false, true] rfl rfl (take_ofW HT_.out HW_.out (by kernel_rfl)) (fun _ _ _ h => h) (Or.inl ⟨by rfl, ?_⟩) hHeld ?_ ?_
 rotate_left
 ·
  rintro w' ⟨s0, s1, s2, s3, s4, s5, s6, s7, s8, s9, s10, s11, s12, s13, s14, s15⟩
  go_simp
  with_reducible rfl
 rotate_left
 ·
  simp only [Act.put, List.setIfInBounds_toArray, List.set_cons_zero, List.set_cons_succ, i64_w, i32_w, IntKind.wrap_u32]
  rfl
 refine pure_ (i := 3) (N := some 10) (v := ?_) (a' := ?_) #[true, true, true, true, true, true, false, false, false, true, true, false, true, true, false, false, true, false, true, false, false, true, false, true, false, false, true, false, false, true, false, false, false, true, false, false, true, false, false, false, true, false, true, false, false, true, false, false, true, false, false, false, false, true] rfl rfl (any_of HT_.out (by kernel_rfl)) (fun _ _ _ h => h) (Or.inl ⟨by rfl, ?_⟩) ?_ ?_
 rotate_left
 ·
  intro w'
  go_simp
  with_reducible rfl
 rotate_left
 ·
  simp only [Act.put, List.setIfInBounds_toArray, List.set_cons_zero, List.set_cons_succ, i64_w, i32_w, IntKind.wrap_u32]
  rfl
 refine take_ (i := 6) (N := some 13) (v := ?_) (a' := ?_) #[true, true, true, true, true, true, true, false, false, true, true, false, true, true, false, false, true, false, true, false, false, true, false, true, false, false, true, false, false, true, false, false, false, true, false, false, true, false, false, false, true, false, true, false, false, true, false, false, true, false, false, false, false, true] rfl rfl (take_ofW HT_.out HW_.out (by kernel_rfl)) (fun _ _ _ h => h) (Or.inl ⟨by rfl, ?_⟩) hHeld ?_ ?_
 rotate_left
 ·
  rintro w' ⟨s0, s1, s2, s3, s4, s5, s6, s7, s8, s9, s10, s11, s12, s13, s14, s15⟩
  go_simp
  with_reducible rfl
 rotate_left
 ·
  simp only [Act.put, List.setIfInBounds_toArray, List.set_cons_zero, List.set_cons_succ, i64_w, i32_w, IntKind.wrap_u32]
  rfl
 refine pure_ (i := 7) (N := some 14) (v := ?_) (a' := ?_) #[true, true, true, true, true, true, true, true, false, true, true, false, true, true, false, false, true, false, true, false, false, true, false, true, false, false, true, false, false, true, false, false, false, true, false, false, true, false, false, false, true, false, true, false, false, true, false, false, true, false, false, false, false, true] rfl rfl (any_of HT_.out (by kernel_rfl)) (fun _ _ _ h => h) (Or.inl ⟨by rfl, ?_⟩) ?_ ?_
 rotate_left
 ·
  intro w'
  go_simp
  with_reducible rfl
 rotate_left
 ·
  simp only [Act.put, List.setIfInBounds_toArray, List.set_cons_zero, List.set_cons_succ, i64_w, i32_w, IntKind.wrap_u32]
  rfl
 refine take_ (i := 11) (N := some 18) (v := ?_) (a' := ?_) #[true, true, true, true, true, true, true, true, false, true, true, true, true, true, false, false, true, false, true, false, false, true, false, true, false, false, true, false, false, true, false, false, false, true, false, false, true, false, false, false, true, false, true, false, false, true, false, false, true, false, false, false, false, true] rfl rfl (take_ofW HT_.out HW_.out (by kernel_rfl)) (fun _ _ _ h => h) (Or.inl ⟨by rfl, ?_⟩) hHeld ?_ ?_
 rotate_left
 ·
  rintro w' ⟨s0, s1, s2, s3, s4, s5, s6, s7, s8, s9, s10, s11, s12, s13, s14, s15⟩
  go_simp
  with_reducible rfl
 rotate_left
 ·
  simp only [Act.put, List.setIfInBounds_toArray, List.set_cons_zero, List.set_cons_succ, i64_w, i32_w, IntKind.wrap_u32]
  rfl
 refine take_ (i := 14) (N := some 21) (v := ?_) (a' := ?_) #[true, true, true, true, true, true, true, true, false, true, true, true, true, true, true, false, true, false, true, false, false, true, false, true, false, false, true, false, false, true, false, false, false, true, false, false, true, false, false, false, true, false, true, false, false, true, false, false, true, false, false, false, false, true] rfl rfl (take_ofW HT_.out HW_.out (by kernel_rfl)) (fun _ _ _ h => h) (Or.inl ⟨by rfl, ?_⟩) hHeld ?_ ?_
 rotate_left
 ·
  rintro w' ⟨s0, s1, s2, s3, s4, s5, s6, s7, s8, s9, s10, s11, s12, s13, s14, s15⟩
  go_simp
  with_reducible rfl
 rotate_left
 ·
  simp only [Act.put, List.setIfInBounds_toArray, List.set_cons_zero, List.set_cons_succ, i64_w, i32_w, IntKind.wrap_u32]
  rfl
 refine take_ (i := 17) (N := some 24) (v := ?_) (a' := ?_) #[true, true, true, true, true, true, true, true, false, true, true, true, true, true, true, false, true, true, true, false, false, true, false, true, false, false, true, false, false, true, false, false, false, true, false, false, true, false, false, false, true, false, true, false, false, true, false, false, true, false, false, false, false, true] rfl rfl (take_ofW HT_.out HW_.out (by kernel_rfl)) (fun _ _ _ h => h) (Or.inl ⟨by rfl, ?_⟩) hHeld ?_ ?_
 rotate_left
 ·
  rintro w' ⟨s0, s1, s2, s3, s4, s5, s6, s7, s8, s9, s10, s11, s12, s13, s14, s15⟩
  go_simp
  with_reducible rfl
 rotate_left
 ·
  simp only [Act.put, List.setIfInBounds_toArray, List.set_cons_zero, List.set_cons_succ, i64_w, i32_w, IntKind.wrap_u32]
  rfl
 refine take_ (i := 19) (N := some 26) (v := ?_) (a' := ?_) #[true, true, true, true, true, true, true, true, false, true, true, true, true, true, true, false, true, true, true, true, false, true, false, true, false, false, true, false, false, true, false, false, false, true, false, false, true, false, false, false, true, false, true, false, false, true, false, false, true, false, false, false, false, true] rfl rfl (take_ofW HT_.out HW_.out (by kernel_rfl)) (fun _ _ _ h => h) (Or.inl ⟨by rfl, ?_⟩) hHeld ?_ ?_
 rotate_left
 ·
  rintro w' ⟨s0, s1, s2, s3, s4, s5, s6, s7, s8, s9, s10, s11, s12, s13, s14, s15⟩
  go_simp
  with_reducible rfl
 rotate_left
 ·
  simp only [Act.put, List.setIfInBounds_toArray, List.set_cons_zero, List.set_cons_succ, i64_w, i32_w, IntKind.wrap_u32]
  rfl
 refine take_ (i := 22) (N := some 29) (v := ?_) (a' := ?_) #[true, true, true, true, true, true, true, true, false, true, true, true, true, true, true, false, true, true, true, true, false, true, true, true, false, false, true, false, false, true, false, false, false, true, false, false, true, false, false, false, true, false, true, false, false, true, false, false, true, false, false, false, false, true] rfl rfl (take_ofW HT_.out HW_.out (by kernel_rfl)) (fun _ _ _ h => h) (Or.inl ⟨by rfl, ?_⟩) hHeld ?_ ?_
 rotate_left
 ·
  rintro w' ⟨s0, s1, s2, s3, s4, s5, s6, s7, s8, s9, s10, s11, s12, s13, s14, s15⟩
  go_simp
  with_reducible rfl
 rotate_left
 ·
  simp only [Act.put, List.setIfInBounds_toArray, List.set_cons_zero, List.set_cons_succ, i64_w, i32_w, IntKind.wrap_u32]
  rfl
 refine take_ (i := 24) (N := some 31) (v := ?_) (a' := ?_) #[true, true, true, true, true, true, true, true, false, true, true, true, true, true, true, false, true, true, true, true, false, true, true, true, true, false, true, false, false, true, false, false, false, true, false, false, true, false, false, false, true, false, true, false, false, true, false, false, true, false, false, false, false, true] rfl rfl (take_ofW HT_.out HW_.out (by kernel_rfl)) (fun _ _ _ h => h) (Or.inl ⟨by rfl, ?_⟩) hHeld ?_ ?_
 rotate_left
 ·
  rintro w' ⟨s0, s1, s2, s3, s4, s5, s6, s7, s8, s9, s10, s11, s12, s13, s14, s15⟩
  go_simp
  with_reducible rfl
 rotate_left
 ·
  simp only [Act.put, List.setIfInBounds_toArray, List.set_cons_zero, List.set_cons_succ, i64_w, i32_w, IntKind.wrap_u32]
  rfl
 refine take_ (i := 27) (N := some 34) (v := ?_) (a' := ?_) #[true, true, true, true, true, true, true, true, false, true, true, true, true, true, true, false, true, true, true, true, false, true, true, true, true, false, true, true, false, true, false, false, false, true, false, false, true, false, false, false, true, false, true, false, false, true, false, false, true, false, false, false, false, true] rfl rfl (take_ofW HT_.out HW_.out (by kernel_rfl)) (fun _ _ _ h => h) (Or.inl ⟨by rfl, ?_⟩) hHeld ?_ ?_
 rotate_left
 ·
  rintro w' ⟨s0, s1, s2, s3, s4, s5, s6, s7, s8, s9, s10, s11, s12, s13, s14, s15⟩
  go_simp
  with_reducible rfl
 rotate_left
 ·
  simp only [Act.put, List.setIfInBounds_toArray, List.set_cons_zero, List.set_cons_succ, i64_w, i32_w, IntKind.wrap_u32]
  rfl
 refine pure_ (i := 28) (N := some 35) (v := ?_) (a' := ?_) #[true, true, true, true, true, true, true, true, false, true, true, true, true, true, true, false, true, true, true, true, false, true, true, true, true, false, true, true, true, true, false, false, false, true, false, false, true, false, false, false, true, false, true, false, false, true, false, false, true, false, false, false, false, true] rfl rfl (any_of HT_.out (by kernel_rfl)) (fun _ _ _ h => h) (Or.inl ⟨by rfl, ?_⟩) ?_ ?_
 rotate_left
 ·
  intro w'
  go_simp
  with_reducible rfl
 rotate_left
 ·
  simp only [Act.put, List.setIfInBounds_toArray, List.set_cons_zero, List.set_cons_succ, i64_w, i32_w, IntKind.wrap_u32]
  rfl
 refine take_ (i := 30) (N := some 37) (v := ?_) (a' := ?_) #[true, true, true, true, true, true, true, true, false, true, true, true, true, true, true, false, true, true, true, true, false, true, true, true, true, false, true, true, true, true, true, false, false, true, false, false, true, false, false, false, true, false, true, false, false, true, false, false, true, false, false, false, false, true] rfl rfl (take_ofW HT_.out HW_.out (by kernel_rfl)) (fun _ _ _ h => h) (Or.inl ⟨by rfl, ?_⟩) hHeld ?_ ?_
 rotate_left
 ·
  rintro w' ⟨s0, s1, s2, s3, s4, s5, s6, s7, s8, s9, s10, s11, s12, s13, s14, s15⟩
  go_simp
  with_reducible rfl
 rotate_left
 ·
  simp only [Act.put, List.setIfInBounds_toArray, List.set_cons_zero, List.set_cons_succ, i64_w, i32_w, IntKind.wrap_u32]
  rfl
 refine pure_ (i := 31) (N := some 38) (v := ?_) (a' := ?_) #[true, true, true, true, true, true, true, true, false, true, true, true, true, true, true, false, true, true, true, true, false, true, true, true, true, false, true, true, true, true, true, true, false, true, false, false, true, false, false, false, true, false, true, false, false, true, false, false, true, false, false, false, false, true] rfl rfl (any_of HT_.out (by kernel_rfl)) (fun _ _ _ h => h) (Or.inl ⟨by rfl, ?_⟩) ?_ ?_
 rotate_left
 ·
  intro w'
  go_simp
  with_reducible rfl
 rotate_left
 ·
  simp only [Act.put, List.setIfInBounds_toArray, List.set_cons_zero, List.set_cons_succ, i64_w, i32_w, IntKind.wrap_u32]
  rfl
 refine take_ (i := 34) (N := some 41) (v := ?_) (a' := ?_) #[true, true, true, true, true, true, true, true, false, true, true, true, true, true, true, false, true, true, true, true, false, true, true, true, true, false, true, true, true, true, true, true, false, true, true, false, true, false, false, false, true, false, true, false, false, true, false, false, true, false, false, false, false, true] rfl rfl (take_ofW HT_.out HW_.out (by kernel_rfl)) (fun _ _ _ h => h) (Or.inl ⟨by rfl, ?_⟩) hHeld ?_ ?_
 rotate_left
 ·
  rintro w' ⟨s0, s1, s2, s3, s4, s5, s6, s7, s8, s9, s10, s11, s12, s13, s14, s15⟩
  go_simp
  with_reducible rfl
 rotate_left
 ·
  simp only [Act.put, List.setIfInBounds_toArray, List.set_cons_zero, List.set_cons_succ, i64_w, i32_w, IntKind.wrap_u32]
  rfl
 refine pure_ (i := 35) (N := some 42) (v := ?_) (a' := ?_) #[true, true, true, true, true, true, true, true, false, true, true, true, true, true, true, false, true, true, true, true, false, true, true, true, true, false, true, true, true, true, true, true, false, true, true, true, true, false, false, false, true, false, true, false, false, true, false, false, true, false, false, false, false, true] rfl rfl (any_of HT_.out (by kernel_rfl)) (fun _ _ _ h => h) (Or.inl ⟨by rfl, ?_⟩) ?_ ?_
 rotate_left
 ·
  intro w'
  go_simp
  with_reducible rfl
 rotate_left
 ·
  simp only [Act.put, List.setIfInBounds_toArray, List.set_cons_zero, List.set_cons_succ, i64_w, i32_w, IntKind.wrap_u32]
  rfl
 refine take_ (i := 37) (N := some 44) (v := ?_) (a' := ?_) #[true, true, true, true, true, true, true, true, false, true, true, true, true, true, true, false, true, true, true, true, false, true, true, true, true, false, true, true, true, true, true, true, false, true, true, true, true, true, false, false, true, false, true, false, false, true, false, false, true, false, false, false, false, true] rfl rfl (take_ofW HT_.out HW_.out (by kernel_rfl)) (fun _ _ _ h => h) (Or.inl ⟨by rfl, ?_⟩) hHeld ?_ ?_
 rotate_left
 ·
  rintro w' ⟨s0, s1, s2, s3, s4, s5, s6, s7, s8, s9, s10, s11, s12, s13, s14, s15⟩
  go_simp
  with_reducible rfl
 rotate_left
 ·
  simp only [Act.put, List.setIfInBounds_toArray, List.set_cons_zero, List.set_cons_succ, i64_w, i32_w, IntKind.wrap_u32]
  rfl
 refine pure_ (i := 38) (N := some 45) (v := ?_) (a' := ?_) #[true, true, true, true, true, true, true, true, false, true, true, true, true, true, true, false, true, true, true, true, false, true, true, true, true, false, true, true, true, true, true, true, false, true, true, true, true, true, true, false, true, false, true, false, false, true, false, false, true, false, false, false, false, true] rfl rfl (any_of HT_.out (by kernel_rfl)) (fun _ _ _ h => h) (Or.inl ⟨by rfl, ?_⟩) ?_ ?_
 rotate_left
 ·
  intro w'
  go_simp
  with_reducible rfl
 rotate_left
 ·
  simp only [Act.put, List.setIfInBounds_toArray, List.set_cons_zero, List.set_cons_succ, i64_w, i32_w, IntKind.wrap_u32]
  rfl
 refine take_ (i := 41) (N := some 48) (v := ?_) (a' := ?_) #[true, true, true, true, true, true, true, true, false, true, true, true, true, true, true, false, true, true, true, true, false, true, true, true, true, false, true, true, true, true, true, true, false, true, true, true, true, true, true, false, true, true, true, false, false, true, false, false, true, false, false, false, false, true] rfl rfl (take_ofW HT_.out HW_.out (by kernel_rfl)) (fun _ _ _ h => h) (Or.inl ⟨by rfl, ?_⟩) hHeld ?_ ?_
 rotate_left
 ·
  rintro w' ⟨s0, s1, s2, s3, s4, s5, s6, s7, s8, s9, s10, s11, s12, s13, s14, s15⟩
  go_simp
  with_reducible rfl
 rotate_left
 ·
  simp only [Act.put, List.setIfInBounds_toArray, List.set_cons_zero, List.set_cons_succ, i64_w, i32_w, IntKind.wrap_u32]
  rfl
 refine take_ (i := 43) (N := some 50) (v := ?_) (a' := ?_) #[true, true, true, true, true, true, true, true, false, true, true, true, true, true, true, false, true, true, true, true, false, true, true, true, true, false, true, true, true, true, true, true, false, true, true, true, true, true, true, false, true, true, true, true, false, true, false, false, true, false, false, false, false, true] rfl rfl (take_ofW HT_.out HW_.out (by kernel_rfl)) (fun _ _ _ h => h) (Or.inl ⟨by rfl, ?_⟩) hHeld ?_ ?_
 rotate_left
 ·
  rintro w' ⟨s0, s1, s2, s3, s4, s5, s6, s7, s8, s9, s10, s11, s12, s13, s14, s15⟩
  go_simp
  with_reducible rfl
 rotate_left
 ·
  simp only [Act.put, List.setIfInBounds_toArray, List.set_cons_zero, List.set_cons_succ, i64_w, i32_w, IntKind.wrap_u32]
  rfl
 refine take_ (i := 46) (N := some 53) (v := ?_) (a' := ?_) #[true, true, true, true, true, true, true, true, false, true, true, true, true, true, true, false, true, true, true, true, false, true, true, true, true, false, true, true, true, true, true, true, false, true, true, true, true, true, true, false, true, true, true, true, false, true, true, false, true, false, false, false, false, true] rfl rfl (take_ofW HT_.out HW_.out (by kernel_rfl)) (fun _ _ _ h => h) (Or.inl ⟨by rfl, ?_⟩) hHeld ?_ ?_
 rotate_left
 ·
  rintro w' ⟨s0, s1, s2, s3, s4, s5, s6, s7, s8, s9, s10, s11, s12, s13, s14, s15⟩
  go_simp
  with_reducible rfl
 rotate_left
 ·
  simp only [Act.put, List.setIfInBounds_toArray, List.set_cons_zero, List.set_cons_succ, i64_w, i32_w, IntKind.wrap_u32]
  rfl
 refine pure_ (i := 47) (N := some 54) (v := ?_) (a' := ?_) #[true, true, true, true, true, true, true, true, false, true, true, true, true, true, true, false, true, true, true, true, false, true, true, true, true, false, true, true, true, true, true, true, false, true, true, true, true, true, true, false, true, true, true, true, false, true, true, true, true, false, false, false, false, true] rfl rfl (any_of HT_.out (by kernel_rfl)) (fun _ _ _ h => h) (Or.inl ⟨by rfl, ?_⟩) ?_ ?_
 rotate_left
 ·
  intro w'
  go_simp
  with_reducible rfl
 rotate_left
 ·
  simp only [Act.put, List.setIfInBounds_toArray, List.set_cons_zero, List.set_cons_succ, i64_w, i32_w, IntKind.wrap_u32]
  rfl
 refine take_ (i := 49) (N := some 56) (v := ?_) (a' := ?_) #[true, true, true, true, true, true, true, true, false, true, true, true, true, true, true, false, true, true, true, true, false, true, true, true, true, false, true, true, true, true, true, true, false, true, true, true, true, true, true, false, true, true, true, true, false, true, true, true, true, true, false, false, false, true] rfl rfl (take_ofW HT_.out HW_.out (by kernel_rfl)) (fun _ _ _ h => h) (Or.inl ⟨by rfl, ?_⟩) hHeld ?_ ?_
 rotate_left
 ·
  rintro w' ⟨s0, s1, s2, s3, s4, s5, s6, s7, s8, s9, s10, s11, s12, s13, s14, s15⟩
  go_simp
  with_reducible rfl
 rotate_left
 ·
  simp only [Act.put, List.setIfInBounds_toArray, List.set_cons_zero, List.set_cons_succ, i64_w, i32_w, IntKind.wrap_u32]
  rfl
 refine pure_ (i := 50) (N := some 57) (v := ?_) (a' := ?_) #[true, true, true, true, true, true, true, true, false, true, true, true, true, true, true, false, true, true, true, true, false, true, true, true, true, false, true, true, true, true, true, true, false, true, true, true, true, true, true, false, true, true, true, true, false, true, true, true, true, true, true, false, false, true] rfl rfl (any_of HT_.out (by kernel_rfl)) (fun _ _ _ h => h) (Or.inl ⟨by rfl, ?_⟩) ?_ ?_
 rotate_left
 ·
  intro w'
  go_simp
  with_reducible rfl
 rotate_left
 ·
  simp only [Act.put, List.setIfInBounds_toArray, List.set_cons_zero, List.set_cons_succ, i64_w, i32_w, IntKind.wrap_u32]
  rfl
 refine one_ (i := 8) (N := some 15) #[true, true, true, true, true, true, true, true, true, true, true, true, true, true, true, false, true, true, true, true, false, true, true, true, true, false, true, true, true, true, true, true, false, true, true, true, true, true, true, false, true, true, true, true, false, true, true, true, true, true, true, false, false, true] rfl rfl (one_of HT_.out (by kernel_rfl)) (by decide) (fun K hK => ?_)
 refine goes_ Try.func61 (by kernel_rfl) rfl #[.int .i64 (wrap64 (a0_0)), .int .i64 (wrap64 (a1_0))] (by rfl) rfl rfl (by (try simp only [List.map_toArray, List.map_cons, List.map_nil]); first | done | rfl | (simp only [List.length_drop, List.length_take]; rfl)) ?_
 with_reducible refine (q18z.calls (wrap64 (a0_0)) (wrap64 (a1_0)) t3 _ A3.out).mono ?_
 rintro e w' ⟨rfl, ⟨nd, rfl⟩⟩
 refine ⟨_, rfl, ?_⟩
 refine hK.out _ _ ⟨(blk_cell BK1.out 0).trans rfl, (blk_cell BK1.out 1).trans rfl, (blk_cell BK1.out 2).trans rfl, (blk_cell BK1.out 3).trans rfl, (blk_cell BK1.out 4).trans rfl, (blk_cell BK1.out 5).trans rfl, (blk_cell BK1.out 6).trans rfl, (blk_cell BK1.out 7).trans rfl, (blk_cell BK2.out 0).trans rfl, (blk_cell BK2.out 1).trans rfl, (blk_cell BK2.out 2).trans rfl, (blk_cell BK2.out 3).trans rfl, (blk_cell BK2.out 4).trans rfl, (blk_cell BK2.out 5).trans rfl, (blk_cell BK2.out 6).trans rfl, (blk_cell BK2.out 7).trans rfl⟩ (fun hHeld => ?_)
 clear hK K
 refine norm_ (a' := ?_) ?_ ?_
 rotate_left
 ·
  show Act.put _ (some 15) _ = _
  simp only [Act.put, List.setIfInBounds_toArray, List.set_cons_zero, List.set_cons_succ, i64_w, i32_w, IntKind.wrap_u32]
  rfl
 refine one_ (i := 15) (N := some 22) #[true, true, true, true, true, true, true, true, true, true, true, true, true, true, true, true, true, true, true, true, false, true, true, true, true, false, true, true, true, true, true, true, false, true, true, true, true, true, true, false, true, true, true, true, false, true, true, true, true, true, true, false, false, true] rfl rfl (one_of HT_.out (by kernel_rfl)) (by decide) (fun K hK => ?_)
 refine goes_ Try.func61 (by kernel_rfl) rfl #[.int .i64 a0_1, .int .i64 a1_1] (by rfl) rfl rfl (by (try simp only [List.map_toArray, List.map_cons, List.map_nil]); first | done | rfl | (simp only [List.length_drop, List.length_take]; rfl)) ?_
 with_reducible refine (q18z.calls a0_1 a1_1 t4 _ A4.out).mono ?_
 rintro e w' ⟨rfl, ⟨nd, rfl⟩⟩
 refine ⟨_, rfl, ?_⟩
 refine hK.out _ _ ⟨(blk_cell BK1.out 0).trans rfl, (blk_cell BK1.out 1).trans rfl, (blk_cell BK1.out 2).trans rfl, (blk_cell BK1.out 3).trans rfl, (blk_cell BK1.out 4).trans rfl, (blk_cell BK1.out 5).trans rfl, (blk_cell BK1.out 6).trans rfl, (blk_cell BK1.out 7).trans rfl, (blk_cell BK2.out 0).trans rfl, (blk_cell BK2.out 1).trans rfl, (blk_cell BK2.out 2).trans rfl, (blk_cell BK2.out 3).trans rfl, (blk_cell BK2.out 4).trans rfl, (blk_cell BK2.out 5).trans rfl, (blk_cell BK2.out 6).trans rfl, (blk_cell BK2.out 7).trans rfl⟩ (fun hHeld => ?_)
 clear hK K
 refine norm_ (a' := ?_) ?_ ?_
 rotate_left
 ·
  show Act.put _ (some 22) _ = _
  simp only [Act.put, List.setIfInBounds_toArray, List.set_cons_zero, List.set_cons_succ, i64_w, i32_w, IntKind.wrap_u32]
  rfl
 refine one_ (i := 20) (N := some 27) #[true, true, true, true, true, true, true, true, true, true, true, true, true, true, true, true, true, true, true, true, true, true, true, true, true, false, true, true, true, true, true, true, false, true, true, true, true, true, true, false, true, true, true, true, false, true, true, true, true, true, true, false, false, true] rfl rfl (one_of HT_.out (by kernel_rfl)) (by decide) (fun K hK => ?_)
 refine goes_ Try.func62 (by kernel_rfl) rfl #[.slice A0_2 l0_2.length c0_2, .slice A1_2 l1_2.length c1_2] (by rfl) rfl rfl (by (try simp only [List.map_toArray, List.map_cons, List.map_nil]); first | done | rfl | (simp only [List.length_drop, List.length_take]; rfl)) ?_
 with_reducible refine (q19z.calls k _ _ l0_2 _ _ l1_2 t5 _ ?side1 ?side2 ?side3 ?side4 A5.out).mono ?_
 (case side1 => repeat (first | exact (Kd.C_below HR0_2.out (by repeat (first | (with_reducible first | exact HB.out | apply below_alloc | apply pw_below_drewN | apply below_drew1 | refine below_set ?_ GE1.out | refine below_set ?_ GE2.out) | exact HB.out))) | (with_reducible refine Kd.C_alloc ?_ _) | (with_reducible refine Kd.C_drewN ?_ _) | (with_reducible refine Kd.C_drew ?_)))
 (case side2 => exact HC0_2.out)
 (case side3 => repeat (first | exact (Kd.C_below HR1_2.out (by repeat (first | (with_reducible first | exact HB.out | apply below_alloc | apply pw_below_drewN | apply below_drew1 | refine below_set ?_ GE1.out | refine below_set ?_ GE2.out) | exact HB.out))) | (with_reducible refine Kd.C_alloc ?_ _) | (with_reducible refine Kd.C_drewN ?_ _) | (with_reducible refine Kd.C_drew ?_)))
 (case side4 => exact HC1_2.out)
 rintro e w' ⟨rfl, ⟨nd, rfl⟩⟩
 refine ⟨_, rfl, ?_⟩
 refine hK.out _ _ ⟨(blk_cell BK1.out 0).trans rfl, (blk_cell BK1.out 1).trans rfl, (blk_cell BK1.out 2).trans rfl, (blk_cell BK1.out 3).trans rfl, (blk_cell BK1.out 4).trans rfl, (blk_cell BK1.out 5).trans rfl, (blk_cell BK1.out 6).trans rfl, (blk_cell BK1.out 7).trans rfl, (blk_cell BK2.out 0).trans rfl, (blk_cell BK2.out 1).trans rfl, (blk_cell BK2.out 2).trans rfl, (blk_cell BK2.out 3).trans rfl, (blk_cell BK2.out 4).trans rfl, (blk_cell BK2.out 5).trans rfl, (blk_cell BK2.out 6).trans rfl, (blk_cell BK2.out 7).trans rfl⟩ (fun hHeld => ?_)
 clear hK K
 refine norm_ (a' := ?_) ?_ ?_
 rotate_left
 ·
  show Act.put _ (some 27) _ = _
  simp only [Act.put, List.setIfInBounds_toArray, List.set_cons_zero, List.set_cons_succ, i64_w, i32_w, IntKind.wrap_u32]
  rfl
 refine one_ (i := 25) (N := some 32) #[true, true, true, true, true, true, true, true, true, true, true, true, true, true, true, true, true, true, true, true, true, true, true, true, true, true, true, true, true, true, true, true, false, true, true, true, true, true, true, false, true, true, true, true, false, true, true, true, true, true, true, false, false, true] rfl rfl (one_of HT_.out (by kernel_rfl)) (by decide) (fun K hK => ?_)
 refine goes_ Try.func62 (by kernel_rfl) rfl #[.slice A0_3 l0_3.length c0_3, .slice A1_3 l1_3.length c1_3] (by rfl) rfl rfl (by (try simp only [List.map_toArray, List.map_cons, List.map_nil]); first | done | rfl | (simp only [List.length_drop, List.length_take]; rfl)) ?_
 with_reducible refine (q19z.calls k _ _ l0_3 _ _ l1_3 t6 _ ?side1 ?side2 ?side3 ?side4 A6.out).mono ?_
 (case side1 => repeat (first | exact (Kd.C_below HR0_3.out (by repeat (first | (with_reducible first | exact HB.out | apply below_alloc | apply pw_below_drewN | apply below_drew1 | refine below_set ?_ GE1.out | refine below_set ?_ GE2.out) | exact HB.out))) | (with_reducible refine Kd.C_alloc ?_ _) | (with_reducible refine Kd.C_drewN ?_ _) | (with_reducible refine Kd.C_drew ?_)))
 (case side2 => exact HC0_3.out)
 (case side3 => repeat (first | exact (Kd.C_below HR1_3.out (by repeat (first | (with_reducible first | exact HB.out | apply below_alloc | apply pw_below_drewN | apply below_drew1 | refine below_set ?_ GE1.out | refine below_set ?_ GE2.out) | exact HB.out))) | (with_reducible refine Kd.C_alloc ?_ _) | (with_reducible refine Kd.C_drewN ?_ _) | (with_reducible refine Kd.C_drew ?_)))
 (case side4 => exact HC1_3.out)
 rintro e w' ⟨rfl, ⟨nd, rfl⟩⟩
 refine ⟨_, rfl, ?_⟩
 refine hK.out _ _ ⟨(blk_cell BK1.out 0).trans rfl, (blk_cell BK1.out 1).trans rfl, (blk_cell BK1.out 2).trans rfl, (blk_cell BK1.out 3).trans rfl, (blk_cell BK1.out 4).trans rfl, (blk_cell BK1.out 5).trans rfl, (blk_cell BK1.out 6).trans rfl, (blk_cell BK1.out 7).trans rfl, (blk_cell BK2.out 0).trans rfl, (blk_cell BK2.out 1).trans rfl, (blk_cell BK2.out 2).trans rfl, (blk_cell BK2.out 3).trans rfl, (blk_cell BK2.out 4).trans rfl, (blk_cell BK2.out 5).trans rfl, (blk_cell BK2.out 6).trans rfl, (blk_cell BK2.out 7).trans rfl⟩ (fun hHeld => ?_)
 clear hK K
 refine norm_ (a' := ?_) ?_ ?_
 rotate_left
 ·
  show Act.put _ (some 32) _ = _
  simp only [Act.put, List.setIfInBounds_toArray, List.set_cons_zero, List.set_cons_succ, i64_w, i32_w, IntKind.wrap_u32]
  rfl
 refine one_ (i := 32) (N := some 39) #[true, true, true, true, true, true, true, true, true, true, true, true, true, true, true, true, true, true, true, true, true, true, true, true, true, true, true, true, true, true, true, true, true, true, true, true, true, true, true, false, true, true, true, true, false, true, true, true, true, true, true, false, false, true] rfl rfl (one_of HT_.out (by kernel_rfl)) (by decide) (fun K hK => ?_)
 refine goes_ Try.func61 (by kernel_rfl) rfl #[.int .i64 (wrap64 (a0_4)), .int .i64 (wrap64 (a1_4))] (by rfl) rfl rfl (by (try simp only [List.map_toArray, List.map_cons, List.map_nil]); first | done | rfl | (simp only [List.length_drop, List.length_take]; rfl)) ?_
 with_reducible refine (q18z.calls (wrap64 (a0_4)) (wrap64 (a1_4)) t7 _ A7.out).mono ?_
 rintro e w' ⟨rfl, ⟨nd, rfl⟩⟩
 refine ⟨_, rfl, ?_⟩
 refine hK.out _ _ ⟨(blk_cell BK1.out 0).trans rfl, (blk_cell BK1.out 1).trans rfl, (blk_cell BK1.out 2).trans rfl, (blk_cell BK1.out 3).trans rfl, (blk_cell BK1.out 4).trans rfl, (blk_cell BK1.out 5).trans rfl, (blk_cell BK1.out 6).trans rfl, (blk_cell BK1.out 7).trans rfl, (blk_cell BK2.out 0).trans rfl, (blk_cell BK2.out 1).trans rfl, (blk_cell BK2.out 2).trans rfl, (blk_cell BK2.out 3).trans rfl, (blk_cell BK2.out 4).trans rfl, (blk_cell BK2.out 5).trans rfl, (blk_cell BK2.out 6).trans rfl, (blk_cell BK2.out 7).trans rfl⟩ (fun hHeld => ?_)
 clear hK K
 refine norm_ (a' := ?_) ?_ ?_
 rotate_left
 ·
  show Act.put _ (some 39) _ = _
  simp only [Act.put, List.setIfInBounds_toArray, List.set_cons_zero, List.set_cons_succ, i64_w, i32_w, IntKind.wrap_u32]
  rfl
 refine one_ (i := 39) (N := some 46) #[true, true, true, true, true, true, true, true, true, true, true, true, true, true, true, true, true, true, true, true, true, true, true, true, true, true, true, true, true, true, true, true, true, true, true, true, true, true, true, true, true, true, true, true, false, true, true, true, true, true, true, false, false, true] rfl rfl (one_of HT_.out (by kernel_rfl)) (by decide) (fun K hK => ?_)
 refine goes_ Try.func61 (by kernel_rfl) rfl #[.int .i64 (wrap64 (a0_5)), .int .i64 (wrap64 (a1_5))] (by rfl) rfl rfl (by (try simp only [List.map_toArray, List.map_cons, List.map_nil]); first | done | rfl | (simp only [List.length_drop, List.length_take]; rfl)) ?_
 with_reducible refine (q18z.calls (wrap64 (a0_5)) (wrap64 (a1_5)) t8 _ A8.out).mono ?_
 rintro e w' ⟨rfl, ⟨nd, rfl⟩⟩
 refine ⟨_, rfl, ?_⟩
 refine hK.out _ _ ⟨(blk_cell BK1.out 0).trans rfl, (blk_cell BK1.out 1).trans rfl, (blk_cell BK1.out 2).trans rfl, (blk_cell BK1.out 3).trans rfl, (blk_cell BK1.out 4).trans rfl, (blk_cell BK1.out 5).trans rfl, (blk_cell BK1.out 6).trans rfl, (blk_cell BK1.out 7).trans rfl, (blk_cell BK2.out 0).trans rfl, (blk_cell BK2.out 1).trans rfl, (blk_cell BK2.out 2).trans rfl, (blk_cell BK2.out 3).trans rfl, (blk_cell BK2.out 4).trans rfl, (blk_cell BK2.out 5).trans rfl, (blk_cell BK2.out 6).trans rfl, (blk_cell BK2.out 7).trans rfl⟩ (fun hHeld => ?_)
 clear hK K
 refine norm_ (a' := ?_) ?_ ?_
 rotate_left
 ·
  show Act.put _ (some 46) _ = _
  simp only [Act.put, List.setIfInBounds_toArray, List.set_cons_zero, List.set_cons_succ, i64_w, i32_w, IntKind.wrap_u32]
  rfl
 refine one_ (i := 44) (N := some 51) #[true, true, true, true, true, true, true, true, true, true, true, true, true, true, true, true, true, true, true, true, true, true, true, true, true, true, true, true, true, true, true, true, true, true, true, true, true, true, true, true, true, true, true, true, true, true, true, true, true, true, true, false, false, true] rfl rfl (one_of HT_.out (by kernel_rfl)) (by decide) (fun K hK => ?_)
 refine goes_ Try.func61 (by kernel_rfl) rfl #[.int .i64 a0_6, .int .i64 a1_6] (by rfl) rfl rfl (by (try simp only [List.map_toArray, List.map_cons, List.map_nil]); first | done | rfl | (simp only [List.length_drop, List.length_take]; rfl)) ?_
 with_reducible refine (q18z.calls a0_6 a1_6 t9 _ A9.out).mono ?_
 rintro e w' ⟨rfl, ⟨nd, rfl⟩⟩
 refine ⟨_, rfl, ?_⟩
 refine hK.out _ _ ⟨(blk_cell BK1.out 0).trans rfl, (blk_cell BK1.out 1).trans rfl, (blk_cell BK1.out 2).trans rfl, (blk_cell BK1.out 3).trans rfl, (blk_cell BK1.out 4).trans rfl, (blk_cell BK1.out 5).trans rfl, (blk_cell BK1.out 6).trans rfl, (blk_cell BK1.out 7).trans rfl, (blk_cell BK2.out 0).trans rfl, (blk_cell BK2.out 1).trans rfl, (blk_cell BK2.out 2).trans rfl, (blk_cell BK2.out 3).trans rfl, (blk_cell BK2.out 4).trans rfl, (blk_cell BK2.out 5).trans rfl, (blk_cell BK2.out 6).trans rfl, (blk_cell BK2.out 7).trans rfl⟩ (fun hHeld => ?_)
 clear hK K
 refine norm_ (a' := ?_) ?_ ?_
 rotate_left
 ·
  show Act.put _ (some 51) _ = _
  simp only [Act.put, List.setIfInBounds_toArray, List.set_cons_zero, List.set_cons_succ, i64_w, i32_w, IntKind.wrap_u32]
  rfl
 refine one_ (i := 51) (N := some 58) #[true, true, true, true, true, true, true, true, true, true, true, true, true, true, true, true, true, true, true, true, true, true, true, true, true, true, true, true, true, true, true, true, true, true, true, true, true, true, true, true, true, true, true, true, true, true, true, true, true, true, true, true, false, true] rfl rfl (one_of HT_.out (by kernel_rfl)) (by decide) (fun K hK => ?_)
 refine goes_ Try.func61 (by kernel_rfl) rfl #[.int .i64 (wrap64 (a0_7)), .int .i64 (wrap64 (a1_7))] (by rfl) rfl rfl (by (try simp only [List.map_toArray, List.map_cons, List.map_nil]); first | done | rfl | (simp only [List.length_drop, List.length_take]; rfl)) ?_
 with_reducible refine (q18z.calls (wrap64 (a0_7)) (wrap64 (a1_7)) t10 _ A10.out).mono ?_
 rintro e w' ⟨rfl, ⟨nd, rfl⟩⟩
 refine ⟨_, rfl, ?_⟩
 refine hK.out _ _ ⟨(blk_cell BK1.out 0).trans rfl, (blk_cell BK1.out 1).trans rfl, (blk_cell BK1.out 2).trans rfl, (blk_cell BK1.out 3).trans rfl, (blk_cell BK1.out 4).trans rfl, (blk_cell BK1.out 5).trans rfl, (blk_cell BK1.out 6).trans rfl, (blk_cell BK1.out 7).trans rfl, (blk_cell BK2.out 0).trans rfl, (blk_cell BK2.out 1).trans rfl, (blk_cell BK2.out 2).trans rfl, (blk_cell BK2.out 3).trans rfl, (blk_cell BK2.out 4).trans rfl, (blk_cell BK2.out 5).trans rfl, (blk_cell BK2.out 6).trans rfl, (blk_cell BK2.out 7).trans rfl⟩ (fun hHeld => ?_)
 clear hK K
 refine norm_ (a' := ?_) ?_ ?_
 rotate_left
 ·
  show Act.put _ (some 58) _ = _
  simp only [Act.put, List.setIfInBounds_toArray, List.set_cons_zero, List.set_cons_succ, i64_w, i32_w, IntKind.wrap_u32]
  rfl
 refine pure_ (i := 52) (N := some 59) (v := ?_) (a' := ?_) #[true, true, true, true, true, true, true, true, true, true, true, true, true, true, true, true, true, true, true, true, true, true, true, true, true, true, true, true, true, true, true, true, true, true, true, true, true, true, true, true, true, true, true, true, true, true, true, true, true, true, true, true, true, true] rfl rfl (any_of HT_.out (by kernel_rfl)) (fun _ _ _ h => h) (Or.inl ⟨by rfl, ?_⟩) ?_ ?_
 rotate_left
 ·
  intro w'
  go_simp
  with_reducible rfl
 rotate_left
 ·
  simp only [Act.put, List.setIfInBounds_toArray, List.set_cons_zero, List.set_cons_succ, i64_w, i32_w, IntKind.wrap_u32]
  rfl
 refine done_ (done_of HT_.out (by kernel_rfl)) ?_
 try go_wp2
 go_loopg [60] k (fun kq v60 w' => ∃ (x60_1 : Int), v60 = .int .i64 x60_1 ∧ Aside0 (q20z.l0 kq x60_1 t3 t4 t5 t6 t7 t8 t9 t10 = some r) ∧ Aside0 (kq ≤ k) ∧ Aside0 (w'.heap[gb1]? = some (.cells #[.int .u32 a0_0, .int .i64 a0_1, (.slice A0_2 l0_2.length c0_2), (.slice A0_3 l0_3.length c0_3), .int .u32 a0_4, .int .u32 a0_5, .int .i64 a0_6, .int .u32 a0_7] 38 (0, 0))) ∧ Aside0 (w'.heap[gb2]? = some (.cells #[.int .u32 a1_0, .int .i64 a1_1, (.slice A1_2 l1_2.length c1_2), (.slice A1_3 l1_3.length c1_3), .int .u32 a1_4, .int .u32 a1_5, .int .i64 a1_6, .int .u32 a1_7] 38 (0, 0))) ∧ Aside0 (Below w.heap.size w w'))
 case atStart => exact ⟨(0), (by first | rfl | (simp; done) | (simp [*]; done)), H', ⟨Nat.le_refl _⟩, ⟨by (with_reducible repeat (first | refine blk_drewN ?_ _ | refine blk_drew ?_ | refine blk_alloc ?_ _)); exact BK1.out⟩, ⟨by (with_reducible repeat (first | refine blk_drewN ?_ _ | refine blk_drew ?_ | refine blk_alloc ?_ _)); exact BK2.out⟩, ⟨by repeat (first | (with_reducible first | exact HB.out | apply below_alloc | apply pw_below_drewN | apply below_drew1 | refine below_set ?_ GE1.out | refine below_set ?_ GE2.out) | exact HB.out)⟩⟩
 case round =>
  clear H'
  try clear c1
  try clear p2
  try clear c3
  try clear c6
  try clear p6
  obtain ⟨x60_1, rfl, HA, HK1, BK1, BK2, HB⟩ := hrel
  cases gk with
  | zero => exact absurd HA.out (by simp [q20z.l0])
  | succ k1 =>
   have H := HA.out
   clear HA
   simp only [q20z.l0] at H
   by_cases c14 : x60_1 < 8
   ·
    rw [if_pos c14] at H
    have c14b0 : decide (x60_1 < 8) = true := decide_eq_true c14
    clear c14
    by_cases c15 : 0 ≤ x60_1
    ·
     rw [if_pos c15] at H
     have c15b0 : decide (0 ≤ x60_1) = true := decide_eq_true c15
     clear c15
     by_cases c17 : (arrA85 t3 t4 t5 t6 t7 t8 t9 t10 x60_1) = 0
     ·
      rw [if_pos c17] at H
      have c17b0 : ((arrA85 t3 t4 t5 t6 t7 t8 t9 t10 x60_1) == 0) = true := beq_iff_eq.mpr c17
      have c17b1 : ((arrA85 t3 t4 t5 t6 t7 t8 t9 t10 x60_1) != 0) = false := bne_eq_false_iff_eq.mpr c17
      clear c17
      have H' := Aside0.mk H
      clear H
      have p16 : 0 ≤ (x60_1 : Int) := of_decide_eq_true (by first | (with_reducible assumption) | assumption)
      have q16 : x60_1 < (8 : Int) := of_decide_eq_true (by first | (with_reducible assumption) | assumption)
      have hx16 := arrA85_run t3 t4 t5 t6 t7 t8 t9 t10 x60_1 p16 q16
      replace p16 := eq_true p16
      replace q16 := eq_true q16
      go_wp2
      go_roundg k1
      case measure => have := HK1.out; omega
      case rel => exact ⟨(wrap64 (x60_1 + 1)), (by first | rfl | (simp; done) | (simp [*]; done)), H', ⟨by have := HK1.out; omega⟩, ⟨by (with_reducible repeat (first | refine blk_drewN ?_ _ | refine blk_drew ?_ | refine blk_alloc ?_ _)); exact BK1.out⟩, ⟨by (with_reducible repeat (first | refine blk_drewN ?_ _ | refine blk_drew ?_ | refine blk_alloc ?_ _)); exact BK2.out⟩, ⟨by repeat (first | (with_reducible first | exact HB.out | apply below_alloc | apply pw_below_drewN | apply below_drew1 | refine below_set ?_ GE1.out | refine below_set ?_ GE2.out) | exact HB.out)⟩⟩
     ·
      rw [if_neg c17] at H
      have c17b0 : ((arrA85 t3 t4 t5 t6 t7 t8 t9 t10 x60_1) == 0) = false := beq_eq_false_iff_ne.mpr c17
      have c17b1 : ((arrA85 t3 t4 t5 t6 t7 t8 t9 t10 x60_1) != 0) = true := bne_iff_ne.mpr c17
      obtain rfl := Option.some.inj H
      have p16 : 0 ≤ (x60_1 : Int) := of_decide_eq_true (by first | (with_reducible assumption) | assumption)
      have q16 : x60_1 < (8 : Int) := of_decide_eq_true (by first | (with_reducible assumption) | assumption)
      have hx16 := arrA85_run t3 t4 t5 t6 t7 t8 t9 t10 x60_1 p16 q16
      replace p16 := eq_true p16
      replace q16 := eq_true q16
      go_wp2
      go_ret
      exact ⟨by first | rfl | (simp [errW_none, errW_some] <;> rfl) | (simp [*, errW_none, errW_some] <;> rfl), by repeat (first | (with_reducible first | exact HB.out | apply below_alloc | apply pw_below_drewN | apply below_drew1 | refine below_set ?_ GE1.out | refine below_set ?_ GE2.out) | exact HB.out)⟩
    ·
     rw [if_neg c15] at H
     exact absurd H (by simp)
   ·
    rw [if_neg c14] at H
    have c14b0 : decide (x60_1 < 8) = false := decide_eq_false c14
    clear c14
    obtain rfl := Option.some.inj H
    go_wp2
    go_ret
    exact ⟨by first | rfl | (simp [errW_none, errW_some] <;> rfl) | (simp [*, errW_none, errW_some] <;> rfl), by repeat (first | (with_reducible first | exact HB.out | apply below_alloc | apply pw_below_drewN | apply below_drew1 | refine below_set ?_ GE1.out | refine below_set ?_ GE2.out) | exact HB.out)⟩

end Go.Proofs.Ythekledcoeeheaa.P

namespace Go.Proofs.Ythekledcoeeheaa.P
open Go.RowKit Go.Proofs.YthekledcoeeheaaW.PrintWords Go.Proofs.YthekledcoeeheaaW.PrintMore
set_option linter.unusedVariables false
set_option linter.unusedSimpArgs false
theorem wr (i : Int) (h0 : -9223372036854775808 ≤ i) (h1 : i ≤ 9223372036854775807) : wrap64 i = i := by unfold wrap64; omega
theorem wrN (i : Nat) (h : i < 9223372036854775807) : wrap64 ((i : Int) + 1) = ((i + 1 : Nat) : Int) := by rw [wr _ (by omega) (by omega)]; omega
theorem wrM (i : Nat) (h : i < 9223372036854775807) (h0 : 0 < i) : wrap64 ((i : Int) - 1) = ((i - 1 : Nat) : Int) := by rw [wr _ (by omega) (by omega)]; omega
theorem rdI (l : List Int) (i : Nat) (h : i < l.length) : rd l (i : Int) = l[i] := by
  unfold rd
  rw [Int.toNat_natCast, List.getD_eq_getElem?_getD, List.getElem?_eq_getElem h]
  rfl
def U32 (a : Int) : Prop := 0 ≤ a ∧ a ≤ 4294967295
def I64 (a : Int) : Prop := -9223372036854775808 ≤ a ∧ a ≤ 9223372036854775807
theorem u32_of {a : Int} (h : (Lit.int .u32 a).wf = true) : U32 a := by
  simp [Lit.wf, IntKind.min, IntKind.max, IntKind.signed, IntKind.bits] at h
  unfold U32
  omega
theorem i64_of {a : Int} (h : (Lit.int .i64 a).wf = true) : I64 a := by
  simp [Lit.wf, IntKind.min, IntKind.max, IntKind.signed, IntKind.bits] at h
  unfold I64
  omega
theorem U32.wr {a : Int} (h : U32 a) : wrap64 a = a := by obtain ⟨h0, h1⟩ := h; exact Go.Proofs.Ythekledcoeeheaa.P.wr a (by omega) (by omega)
/-- A list of numbers of 32 bits, no longer than memory has it. -/
def LU (l : List Int) : Prop := l.length ≤ 9223372036854775807 ∧ ∀ z ∈ l, U32 z
theorem lu_of {l : List Int} (h : l.length ≤ 9223372036854775807 ∧ ∀ z_ ∈ l, (Lit.int .u32 z_).wf = true) : LU l := ⟨h.1, fun z hz => u32_of (h.2 z hz)⟩
/-! Which comes first. -/
def cmpI (a b : Int) : Int := if a < b then -1 else if a > b then 1 else 0
def listC : List Int → List Int → Int
  | [], [] => 0
  | [], _ :: _ => -1
  | _ :: _, [] => 1
  | a :: s, b :: t => if cmpI a b = 0 then listC s t else cmpI a b
def firstNZ : List Int → Int
  | [] => 0
  | a :: s => if a = 0 then firstNZ s else a
/-- What an order's answer has. -/
structure Ord {α : Type} (c : α → α → Int) : Prop where
  rng : ∀ a b, c a b = -1 ∨ c a b = 0 ∨ c a b = 1
  anti : ∀ a b, c b a = - c a b
  eq0 : ∀ a b, c a b = 0 → a = b
  trans : ∀ a b d, c a b ≤ 0 → c b d ≤ 0 → c a d ≤ 0
theorem Ord.self {α : Type} {c : α → α → Int} (h : Ord c) (a : α) : c a a = 0 := by have := h.anti a a; omega
theorem cmpI_ord : Ord cmpI where
  rng a b := by unfold cmpI; split <;> (try split) <;> omega
  anti a b := by unfold cmpI; split <;> split <;> (try split) <;> (try split) <;> omega
  eq0 a b h := by unfold cmpI at h; split at h <;> (try split at h) <;> omega
  trans a b d h1 h2 := by
    unfold cmpI at *
    split at h1 <;> (try split at h1) <;> split at h2 <;> (try split at h2) <;> split <;> (try split) <;> omega
def lex {α β : Type} (c1 : α → α → Int) (c2 : β → β → Int) (a b : α × β) : Int := if c1 a.1 b.1 = 0 then c2 a.2 b.2 else c1 a.1 b.1
theorem Ord.lex {α β : Type} {c1 : α → α → Int} {c2 : β → β → Int} (h1 : Ord c1) (h2 : Ord c2) : Ord (lex c1 c2) where
  rng a b := by unfold P.lex; split; exact h2.rng _ _; exact h1.rng _ _
  anti a b := by
    unfold P.lex
    have e := h1.anti a.1 b.1
    by_cases h : c1 a.1 b.1 = 0
    · rw [if_pos h, if_pos (by omega)]; exact h2.anti _ _
    · rw [if_neg h, if_neg (by omega)]; exact e
  eq0 a b h := by
    unfold P.lex at h
    by_cases h0 : c1 a.1 b.1 = 0
    · rw [if_pos h0] at h
      exact Prod.ext (h1.eq0 _ _ h0) (h2.eq0 _ _ h)
    · rw [if_neg h0] at h; exact absurd h h0
  trans a b d ha hb := by
    unfold P.lex at *
    by_cases e1 : c1 a.1 b.1 = 0
    · rw [if_pos e1] at ha
      rw [h1.eq0 _ _ e1]
      by_cases e2 : c1 b.1 d.1 = 0
      · rw [if_pos e2] at hb ⊢; exact h2.trans _ _ _ ha hb
      · rw [if_neg e2] at hb ⊢; exact hb
    · rw [if_neg e1] at ha
      by_cases e2 : c1 b.1 d.1 = 0
      · rw [if_pos e2] at hb
        rw [← h1.eq0 _ _ e2, if_neg e1]; exact ha
      · rw [if_neg e2] at hb
        have t := h1.trans _ _ _ ha hb
        by_cases e3 : c1 a.1 d.1 = 0
        · have := h1.eq0 _ _ e3
          have := h1.anti a.1 b.1
          rw [← h1.eq0 _ _ e3] at hb
          omega
        · rw [if_neg e3]; exact t
theorem listC_rng : ∀ a b, listC a b = -1 ∨ listC a b = 0 ∨ listC a b = 1
  | [], [] => by simp [listC]
  | [], _ :: _ => by simp [listC]
  | _ :: _, [] => by simp [listC]
  | a :: s, b :: t => by
    simp only [listC]
    split
    · exact listC_rng s t
    · exact cmpI_ord.rng a b
theorem listC_anti : ∀ a b, listC b a = - listC a b
  | [], [] => by simp [listC]
  | [], _ :: _ => by simp [listC]
  | _ :: _, [] => by simp [listC]
  | a :: s, b :: t => by
    simp only [listC]
    have e := cmpI_ord.anti a b
    by_cases h : cmpI a b = 0
    · rw [if_pos h, if_pos (by omega)]; exact listC_anti s t
    · rw [if_neg h, if_neg (by omega)]; exact e
theorem listC_eq0 : ∀ a b, listC a b = 0 → a = b
  | [], [] => fun _ => rfl
  | [], _ :: _ => by simp [listC]
  | _ :: _, [] => by simp [listC]
  | a :: s, b :: t => by
    simp only [listC]
    by_cases h : cmpI a b = 0
    · rw [if_pos h]
      intro h2
      rw [cmpI_ord.eq0 a b h, listC_eq0 s t h2]
    · rw [if_neg h]; exact fun h2 => absurd h2 h
theorem listC_trans : ∀ a b d, listC a b ≤ 0 → listC b d ≤ 0 → listC a d ≤ 0
  | [], _, [] => by simp [listC]
  | [], _, _ :: _ => by simp [listC]
  | _ :: _, [], _ => by simp [listC]
  | _ :: _, _ :: _, [] => by simp [listC]
  | a :: s, b :: t, d :: u => by
    intro h1 h2
    have k : ∀ x y : Int, ∀ p q : List Int, listC (x :: p) (y :: q) = if cmpI x y = 0 then listC p q else cmpI x y := fun _ _ _ _ => rfl
    rw [k] at h1 h2 ⊢
    by_cases e1 : cmpI a b = 0
    · rw [if_pos e1] at h1
      rw [cmpI_ord.eq0 a b e1]
      by_cases e2 : cmpI b d = 0
      · rw [if_pos e2] at h2 ⊢; exact listC_trans s t u h1 h2
      · rw [if_neg e2] at h2 ⊢; exact h2
    · rw [if_neg e1] at h1
      by_cases e2 : cmpI b d = 0
      · rw [← cmpI_ord.eq0 b d e2, if_neg e1]; exact h1
      · rw [if_neg e2] at h2
        have t := cmpI_ord.trans a b d h1 h2
        by_cases e3 : cmpI a d = 0
        · have := cmpI_ord.anti a b
          rw [← cmpI_ord.eq0 a d e3] at h2
          omega
        · rw [if_neg e3]; exact t
theorem listC_ord : Ord listC := ⟨listC_rng, listC_anti, listC_eq0, listC_trans⟩
abbrev R8 := Int × Int × List Int × List Int × Int × Int × Int × Int
def cmpR (a b : R8) : Int := firstNZ [cmpI a.1 b.1, cmpI a.2.1 b.2.1, listC a.2.2.1 b.2.2.1, listC a.2.2.2.1 b.2.2.2.1, cmpI a.2.2.2.2.1 b.2.2.2.2.1, cmpI a.2.2.2.2.2.1 b.2.2.2.2.2.1, cmpI a.2.2.2.2.2.2.1 b.2.2.2.2.2.2.1, cmpI a.2.2.2.2.2.2.2 b.2.2.2.2.2.2.2]
theorem cmpR_eq : cmpR = lex cmpI (lex cmpI (lex listC (lex listC (lex cmpI (lex cmpI (lex cmpI cmpI)))))) := by
  funext a b
  have z : ∀ x : Int, (if x = 0 then (0 : Int) else x) = x := fun x => by split <;> omega
  simp only [cmpR, firstNZ, lex, z]
theorem cmpR_ord : Ord cmpR := by
  rw [cmpR_eq]
  exact cmpI_ord.lex (cmpI_ord.lex (listC_ord.lex (listC_ord.lex (cmpI_ord.lex (cmpI_ord.lex (cmpI_ord.lex cmpI_ord))))))
/-! What the code computes. -/
theorem cmpU_f (a b : Int) : q9z.f a b = some (cmpI a b) := by
  unfold q9z.f q8z.f cmpI
  simp only [bne_self_eq_false, Option.bind_some, Bool.false_eq_true, if_false]
  split
  · rfl
  · split <;> rfl
theorem cmpInt_f (a b : Int) : q11z.f a b = some (cmpI a b) := by
  unfold q11z.f q10z.f cmpI
  simp only [bne_self_eq_false, Option.bind_some, Bool.false_eq_true, if_false]
  split
  · rfl
  · split <;> rfl
theorem number_f (a b : Int) : q18z.f a b = some (cmpI a b) := by
  unfold q18z.f cmpI
  split
  · rfl
  · split <;> rfl
theorem cmpI_self (a : Int) : cmpI a a = 0 := cmpI_ord.self a
theorem drop_ge (l : List Int) (i : Nat) (h : l.length ≤ i) : l.drop i = [] := List.drop_eq_nil_of_le h
theorem compare_l0 (a b : List Int) (ha : a.length ≤ 9223372036854775807) : ∀ (d i : Nat), i + d = a.length → Ev (fun k => q12z.l0 k a b a (a.length : Int) (i : Int)) (listC (a.drop i) (b.drop i))
  | 0, i, hi => by
    refine Ev.step (f := fun _ => some (listC (a.drop i) (b.drop i))) (fun k => ?_) (Ev.now _)
    simp only [q12z.l0]
    rw [if_neg (by omega), drop_ge a i (by omega)]
    by_cases h : i < b.length
    · rw [if_pos (by omega), List.drop_eq_getElem_cons h]
      rfl
    · rw [if_neg (by omega), drop_ge b i (by omega)]
      rfl
  | d + 1, i, hi => by
    have hia : i < a.length := by omega
    rw [List.drop_eq_getElem_cons hia]
    by_cases h : i < b.length
    · rw [List.drop_eq_getElem_cons h]
      have ih := compare_l0 a b ha d (i + 1) (by omega)
      by_cases e : cmpI a[i] b[i] = 0
      · refine Ev.step (f := fun k => q12z.l0 k a b a (a.length : Int) ((i + 1 : Nat) : Int)) (fun k => ?_) ?_
        · simp only [q12z.l0]
          rw [if_pos (by omega), if_pos (by omega), if_pos (by omega), if_neg (by omega), if_pos (by omega), rdI a i hia, rdI b i h, cmpU_f, Option.bind_some, if_pos e, wrN i (by omega)]
        · simp only [listC, e, if_true]; exact ih
      · refine Ev.step (f := fun _ => some (cmpI a[i] b[i])) (fun k => ?_) ?_
        · simp only [q12z.l0]
          rw [if_pos (by omega), if_pos (by omega), if_pos (by omega), if_neg (by omega), if_pos (by omega), rdI a i hia, rdI b i h, cmpU_f, Option.bind_some, if_neg e]
        · simp only [listC, e, if_false]; exact Ev.now _
    · refine Ev.step (f := fun _ => some 1) (fun k => ?_) ?_
      · simp only [q12z.l0]
        rw [if_pos (by omega), if_pos (by omega), if_pos (by omega), if_pos (by omega)]
      · rw [drop_ge b i (by omega)]; exact Ev.now _
theorem compare_ev (a b : List Int) (ha : a.length ≤ 9223372036854775807) : Ev (fun k => q12z.f k a b) (listC a b) := compare_l0 a b ha a.length 0 (by omega)
theorem list_end (a b : List Int) (i : Nat) (ha : i ≤ a.length) (hb : i ≤ b.length) (h : ¬ (i < a.length ∧ i < b.length)) : cmpI (a.length : Int) (b.length : Int) = listC (a.drop i) (b.drop i) := by
  by_cases h1 : i < a.length
  · have h2 : ¬ i < b.length := fun h2 => h ⟨h1, h2⟩
    rw [drop_ge b i (by omega), List.drop_eq_getElem_cons h1]
    simp only [listC]
    unfold cmpI
    rw [if_neg (by omega), if_pos (by omega)]
  · rw [drop_ge a i (by omega)]
    by_cases h2 : i < b.length
    · rw [List.drop_eq_getElem_cons h2]
      simp only [listC]
      unfold cmpI
      rw [if_pos (by omega)]
    · rw [drop_ge b i (by omega)]
      simp only [listC]
      unfold cmpI
      rw [if_neg (by omega), if_neg (by omega)]
theorem list_l0 (a b : List Int) (ha : LU a) (hb : LU b) : ∀ (d i : Nat), i + d = a.length → i ≤ b.length → Ev (fun k => q19z.l0 k a b (i : Int)) (listC (a.drop i) (b.drop i))
  | 0, i, hi, hib => by
    refine Ev.step (f := fun k => q19z.j1 k a b (i : Int) false) (fun k => ?_) ?_
    · simp only [q19z.l0]
      rw [if_neg (by omega)]
    · refine Ev.step (f := fun _ => some (listC (a.drop i) (b.drop i))) (fun k => ?_) (Ev.now _)
      simp only [q19z.j1, Bool.false_eq_true, if_false, number_f, Option.bind_some, list_end a b i (by omega) hib (by omega)]
  | d + 1, i, hi, hib => by
    have hia : i < a.length := by omega
    have hl := ha.1
    by_cases h : i < b.length
    · have ih := list_l0 a b ha hb d (i + 1) (by omega) (by omega)
      refine Ev.step (f := fun k => q19z.j1 k a b (i : Int) true) (fun k => ?_) ?_
      · simp only [q19z.l0]
        rw [if_pos (by omega), decide_eq_true (by omega)]
      · rw [List.drop_eq_getElem_cons hia, List.drop_eq_getElem_cons h]
        by_cases e : a[i] = b[i]
        · refine Ev.step (f := fun k => q19z.l0 k a b ((i + 1 : Nat) : Int)) (fun k => ?_) ?_
          · simp only [q19z.j1]
            rw [if_pos trivial, if_pos (by omega), if_pos (by omega), if_pos (by omega), rdI a i hia, rdI b i h, if_pos e, wrN i (by omega)]
          · simp only [listC, e, cmpI_self, if_true]; exact ih
        · have e0 : cmpI a[i] b[i] ≠ 0 := fun h0 => e (cmpI_ord.eq0 _ _ h0)
          refine Ev.step (f := fun _ => some (cmpI a[i] b[i])) (fun k => ?_) ?_
          · simp only [q19z.j1]
            rw [if_pos trivial, if_pos (by omega), if_pos (by omega), if_pos (by omega), rdI a i hia, rdI b i h, if_neg e, (ha.2 _ (List.getElem_mem hia)).wr, (hb.2 _ (List.getElem_mem h)).wr, number_f, Option.bind_some]
          · simp only [listC, e0, if_false]; exact Ev.now _
    · refine Ev.step (f := fun k => q19z.j1 k a b (i : Int) false) (fun k => ?_) ?_
      · simp only [q19z.l0]
        rw [if_pos (by omega), decide_eq_false (by omega)]
      · refine Ev.step (f := fun _ => some (listC (a.drop i) (b.drop i))) (fun k => ?_) (Ev.now _)
        simp only [q19z.j1, Bool.false_eq_true, if_false, number_f, Option.bind_some, list_end a b i (by omega) hib (by omega)]
theorem list_ev (a b : List Int) (ha : LU a) (hb : LU b) : Ev (fun k => q19z.f k a b) (listC a b) := list_l0 a b ha hb a.length 0 (by omega) (by omega)
theorem first_l0 (l : List Int) (hl : l.length ≤ 9223372036854775807) : ∀ (d i : Nat), i + d = l.length → Ev (fun k => q7z.l0 k l (l.length : Int) (i : Int)) (firstNZ (l.drop i))
  | 0, i, hi => by
    refine Ev.step (f := fun _ => some 0) (fun k => ?_) ?_
    · simp only [q7z.l0]
      rw [if_neg (by omega)]
    · rw [drop_ge l i (by omega)]; exact Ev.now _
  | d + 1, i, hi => by
    have h : i < l.length := by omega
    rw [List.drop_eq_getElem_cons h]
    by_cases e : l[i] = 0
    · refine Ev.step (f := fun k => q7z.l0 k l (l.length : Int) ((i + 1 : Nat) : Int)) (fun k => ?_) ?_
      · simp only [q7z.l0]
        rw [if_pos (by omega), if_pos (by omega), if_pos (by omega), rdI l i h, if_pos e, wrN i (by omega)]
      · simp only [firstNZ, e, if_true]; exact first_l0 l hl d (i + 1) (by omega)
    · refine Ev.step (f := fun _ => some l[i]) (fun k => ?_) ?_
      · simp only [q7z.l0]
        rw [if_pos (by omega), if_pos (by omega), if_pos (by omega), rdI l i h, if_neg e]
      · simp only [firstNZ, e, if_false]; exact Ev.now _
theorem routeCmp_ev (a b : R8) (h1 : a.2.2.1.length ≤ 9223372036854775807) (h2 : a.2.2.2.1.length ≤ 9223372036854775807) : Ev (fun k => q13z.f k a.1 a.2.1 a.2.2.1 a.2.2.2.1 a.2.2.2.2.1 a.2.2.2.2.2.1 a.2.2.2.2.2.2.1 a.2.2.2.2.2.2.2 b.1 b.2.1 b.2.2.1 b.2.2.2.1 b.2.2.2.2.1 b.2.2.2.2.2.1 b.2.2.2.2.2.2.1 b.2.2.2.2.2.2.2) (cmpR a b) := by
  obtain ⟨K1, e1⟩ := compare_ev a.2.2.1 b.2.2.1 h1
  obtain ⟨K2, e2⟩ := compare_ev a.2.2.2.1 b.2.2.2.1 h2
  obtain ⟨K3, e3⟩ := first_l0 [cmpI a.1 b.1, cmpI a.2.1 b.2.1, listC a.2.2.1 b.2.2.1, listC a.2.2.2.1 b.2.2.2.1, cmpI a.2.2.2.2.1 b.2.2.2.2.1, cmpI a.2.2.2.2.2.1 b.2.2.2.2.2.1, cmpI a.2.2.2.2.2.2.1 b.2.2.2.2.2.2.1, cmpI a.2.2.2.2.2.2.2 b.2.2.2.2.2.2.2] (by simp) 8 0 rfl
  refine ⟨K1 + K2 + K3, fun k hk => ?_⟩
  simp only [q13z.f, cmpU_f, cmpInt_f, e1 k (by omega), e2 k (by omega), Option.bind_some]
  have := e3 k (by omega)
  unfold q7z.f
  exact (congrArg (fun z => Option.bind z fun t => some t) this).trans rfl
theorem cmp_step (c0 c1 c2 c3 c4 c5 c6 c7 : Int) (i : Nat) (hi : i < 8) (r : Int) (h : Ev (fun k => q20z.l0 k ((i + 1 : Nat) : Int) c0 c1 c2 c3 c4 c5 c6 c7) r) :
    Ev (fun k => q20z.l0 k (i : Int) c0 c1 c2 c3 c4 c5 c6 c7) (if arrA85 c0 c1 c2 c3 c4 c5 c6 c7 (i : Int) = 0 then r else arrA85 c0 c1 c2 c3 c4 c5 c6 c7 (i : Int)) := by
  by_cases e : arrA85 c0 c1 c2 c3 c4 c5 c6 c7 (i : Int) = 0
  · rw [if_pos e]
    refine Ev.step (f := fun k => q20z.l0 k ((i + 1 : Nat) : Int) c0 c1 c2 c3 c4 c5 c6 c7) (fun k => ?_) h
    simp only [q20z.l0]
    rw [if_pos (by omega), if_pos (by omega), if_pos e, wrN i (by omega)]
  · rw [if_neg e]
    refine Ev.step (f := fun _ => some (arrA85 c0 c1 c2 c3 c4 c5 c6 c7 (i : Int))) (fun k => ?_) (Ev.now _)
    simp only [q20z.l0]
    rw [if_pos (by omega), if_pos (by omega), if_neg e]
theorem cmp_l0 (c0 c1 c2 c3 c4 c5 c6 c7 : Int) : Ev (fun k => q20z.l0 k 0 c0 c1 c2 c3 c4 c5 c6 c7) (firstNZ [c0, c1, c2, c3, c4, c5, c6, c7]) := by
  have h8 : Ev (fun k => q20z.l0 k ((8 : Nat) : Int) c0 c1 c2 c3 c4 c5 c6 c7) 0 := Ev.step (f := fun _ => some 0) (fun k => rfl) (Ev.now _)
  exact cmp_step c0 c1 c2 c3 c4 c5 c6 c7 0 (by omega) _ (cmp_step c0 c1 c2 c3 c4 c5 c6 c7 1 (by omega) _ (cmp_step c0 c1 c2 c3 c4 c5 c6 c7 2 (by omega) _ (cmp_step c0 c1 c2 c3 c4 c5 c6 c7 3 (by omega) _ (cmp_step c0 c1 c2 c3 c4 c5 c6 c7 4 (by omega) _ (cmp_step c0 c1 c2 c3 c4 c5 c6 c7 5 (by omega) _ (cmp_step c0 c1 c2 c3 c4 c5 c6 c7 6 (by omega) _ (cmp_step c0 c1 c2 c3 c4 c5 c6 c7 7 (by omega) _ h8)))))))
/-- What a route's cells may hold. -/
def RU (a : R8) : Prop := U32 a.1 ∧ I64 a.2.1 ∧ LU a.2.2.1 ∧ LU a.2.2.2.1 ∧ U32 a.2.2.2.2.1 ∧ U32 a.2.2.2.2.2.1 ∧ I64 a.2.2.2.2.2.2.1 ∧ U32 a.2.2.2.2.2.2.2
theorem refCmp_ev (a b : R8) (ha : RU a) (hb : RU b) : Ev (fun k => q20z.f k a.1 a.2.1 a.2.2.1 a.2.2.2.1 a.2.2.2.2.1 a.2.2.2.2.2.1 a.2.2.2.2.2.2.1 a.2.2.2.2.2.2.2 b.1 b.2.1 b.2.2.1 b.2.2.2.1 b.2.2.2.2.1 b.2.2.2.2.2.1 b.2.2.2.2.2.2.1 b.2.2.2.2.2.2.2) (cmpR a b) := by
  obtain ⟨a0, a1, a2, a3, a4, a5, a6, a7⟩ := ha
  obtain ⟨b0, b1, b2, b3, b4, b5, b6, b7⟩ := hb
  obtain ⟨K1, e1⟩ := list_ev a.2.2.1 b.2.2.1 a2 b2
  obtain ⟨K2, e2⟩ := list_ev a.2.2.2.1 b.2.2.2.1 a3 b3
  obtain ⟨K3, e3⟩ := cmp_l0 (cmpI a.1 b.1) (cmpI a.2.1 b.2.1) (listC a.2.2.1 b.2.2.1) (listC a.2.2.2.1 b.2.2.2.1) (cmpI a.2.2.2.2.1 b.2.2.2.2.1) (cmpI a.2.2.2.2.2.1 b.2.2.2.2.2.1) (cmpI a.2.2.2.2.2.2.1 b.2.2.2.2.2.2.1) (cmpI a.2.2.2.2.2.2.2 b.2.2.2.2.2.2.2)
  refine ⟨K1 + K2 + K3, fun k hk => ?_⟩
  simp only [q20z.f, number_f, a0.wr, b0.wr, a4.wr, b4.wr, a5.wr, b5.wr, a7.wr, b7.wr, e1 k (by omega), e2 k (by omega), Option.bind_some]
  exact e3 k (by omega)
end Go.Proofs.Ythekledcoeeheaa.P

namespace Go.Proofs.Ythekledcoeeheaa.P
open Go.RowKit Go.Proofs.YthekledcoeeheaaW.PrintWords Go.Proofs.YthekledcoeeheaaW.PrintLast Go.Proofs.YthekledcoeeheaaW.PrintMore
attribute [local go_sem] max2_int min2_int max_two min_two max_three min_three max_four min_four
set_option linter.unusedVariables false
set_option linter.unusedSimpArgs false

/-! ### dragomanref03_Mask: function 33 -/
def q21z.l0 : Nat → Int → Int → Int → Int → Int → Option (Int × Int)
 | 0, _, _, _, _, _ => none
 | k + 1, x3, x4, x5, x2000, x2001 => if x5 < 32 then (q21z.l0 k x3 (IntKind.u64.wrap (2 * x4)) (wrap64 (x5 + 1)) x2000 x2001) else (if x4 = 0 then (none) else (some ((IntKind.u64.wrap ((IntKind.u64.wrap (Int.tdiv (IntKind.u64.wrap (x2000)) x4)) * x4)) % 4294967296, x3)))
def q21z.f (k : Nat) (a0_0 : Int) (a0_1 : Int) : Option (Int × Int) := q21z.l0 k (mx 0 (mn a0_1 32)) 1 (mx 0 (mn a0_1 32)) a0_0 a0_1
theorem q21z.mono_l : ∀ k, (∀ y0 y1 y2 y3 y4, LeO (q21z.l0 k y0 y1 y2 y3 y4) (q21z.l0 (k + 1) y0 y1 y2 y3 y4))
 | 0 => fun _ _ _ _ _ r h => by simp [q21z.l0] at h
 | k + 1 => by
  have ih0 := q21z.mono_l k
  ·
   intro y0 y1 y2 y3 y4
   unfold q21z.l0
   repeat' first
   | (with_reducible exact ih0 _ _ _ _ _)
   | (with_reducible exact LeO.refl _)
   | (with_reducible exact LeO.none _)
   | (with_reducible refine LeO.ite ?_ ?_)
   | (with_reducible refine LeO.bind ?_ (fun _ => ?_))
   | exact ih0 _ _ _ _ _
   | exact LeO.none _
   | refine LeO.ite ?_ ?_
   | refine LeO.bind ?_ (fun _ => ?_)
theorem q21z.mono : ∀ a0 a1 k, LeO (q21z.f k a0 a1) (q21z.f (k + 1) a0 a1) := by
 intro a0 a1 k
 have ih0 := q21z.mono_l k
 unfold q21z.f
 repeat' first
   | (with_reducible exact ih0 _ _ _ _ _)
   | (with_reducible exact LeO.refl _)
   | (with_reducible exact LeO.none _)
   | (with_reducible refine LeO.ite ?_ ?_)
   | (with_reducible refine LeO.bind ?_ (fun _ => ?_))
   | exact ih0 _ _ _ _ _
   | exact LeO.none _
   | refine LeO.ite ?_ ?_
   | refine LeO.bind ?_ (fun _ => ?_)
set_option maxHeartbeats 8000000 in
set_option maxRecDepth 100000 in
theorem q21z.calls (k : Nat) (a0_0 : Int) (a0_1 : Int) (r1 : Int) (r2 : Int) (w : World) (h : q21z.f k a0_0 a0_1 = some (r1, r2)) :
  Calls Try.prog 33 #[.agg #[.int .u32 a0_0, .int .i64 a0_1]] w fun e w' => e = .returned (.agg #[.int .u32 r1, .int .i64 r2]) ∧ Below w.heap.size w w' := by
 have hu35 := Try.underlying35
 have HB := Aside0.mk (Below.refl w.heap.size w)
 have H : (q21z.l0 k (mx 0 (mn a0_1 32)) 1 (mx 0 (mn a0_1 32)) a0_0 a0_1) = some (r1, r2) := h
 clear h
 obtain ⟨ji2, hji2⟩ : ∃ j_ : Int, (mn a0_1 32) = j_ := ⟨_, rfl⟩
 replace H : (q21z.l0 k (mx 0 (ji2)) 1 (mx 0 (ji2)) a0_0 a0_1) = some (r1, r2) := by first | (rw [hji2] at H; exact H) | (simp only [hji2] at H ⊢; exact H)
 (try (have hji2h : ji2 ≤ 32 := by (rw [← hji2]; unfold mn; (repeat' split) <;> omega)))
 (try (have hji2g : ji2 ≤ 64 := by omega))
 have hji2_ : (if 32 < a0_1 then 32 else a0_1) = ji2 := hji2
 obtain ⟨ji3, hji3⟩ : ∃ j_ : Int, (mx 0 (ji2)) = j_ := ⟨_, rfl⟩
 replace H : (q21z.l0 k ji3 1 ji3 a0_0 a0_1) = some (r1, r2) := by first | (rw [hji3] at H; exact H) | (simp only [hji3] at H ⊢; exact H)
 have hji3_ : (if 0 < (ji2) then (ji2) else 0) = ji3 := hji3
 have H' := Aside0.mk H
 clear H
 go_enter Try.func33, Try.ntmps33
 go_wp2_with (first | ((with_reducible refine gate_dst (N := 1) rfl ?_); refine box_event ?hg (N := 1) ?hd (cs := #[.int .u32 a0_0, .int .i64 a0_1]) (t := 35) ?hr ?_; (case hd => rfl); (case hg => rfl); (case hr => first | (go_simp; done) | (go_simp; rfl)); intro gb1 hg w4 hbox hb; have n0_ := Aside0.mk (below_step (by repeat (first | (with_reducible first | exact HB.out | apply below_alloc | apply pw_below_drewN | apply below_drew1) | exact HB.out)) hb); have n1_ := Aside0.mk (hbox); have n2_ := Aside0.mk ((by rw [hg]; exact (below_size (by repeat (first | (with_reducible first | exact HB.out | apply below_alloc | apply pw_below_drewN | apply below_drew1) | exact HB.out))) : w.heap.size ≤ gb1)); have n3_ := Aside0.mk ((by rw [hg]; exact (below_size (by repeat (first | (with_reducible first | exact HB.out | apply below_alloc | apply pw_below_drewN | apply below_drew1) | exact HB.out))) : w.heap.size ≤ gb1)); clear HB; have HB := n0_; have BK1 := n1_; have GW1 := n2_; have GE1 := n3_; clear n0_ n1_ n2_ n3_; clear hb hbox hg) | ((with_reducible refine gate_dst (N := 2) rfl ?_); refine box_event ?hg (N := 2) ?hd (cs := #[.int .u32 0, .int .i64 0]) (t := 35) ?hr ?_; (case hd => rfl); (case hg => rfl); (case hr => first | (go_simp; done) | (go_simp; rfl)); intro gb2 hg w5 hbox hb; have n0_ := Aside0.mk (blk_below (g := gb1) (o := .cells #[.int .u32 a0_0, .int .i64 a0_1] 35 (0, 0)) (by (with_reducible repeat (first | refine blk_drewN ?_ _ | refine blk_drew ?_ | refine blk_alloc ?_ _)); exact BK1.out) hb); have n1_ := Aside0.mk (below_step (by repeat (first | (with_reducible first | exact HB.out | apply below_alloc | apply pw_below_drewN | apply below_drew1 | refine below_set ?_ GE1.out) | exact HB.out)) hb); have n2_ := Aside0.mk (hbox); have n3_ := Aside0.mk ((by rw [hg]; exact (below_size (by repeat (first | (with_reducible first | exact HB.out | apply below_alloc | apply pw_below_drewN | apply below_drew1 | refine below_set ?_ GE1.out) | exact HB.out))) : w.heap.size ≤ gb2)); have n4_ := Aside0.mk ((by rw [hg]; exact (below_size (by repeat (first | (with_reducible first | exact HB.out | apply below_alloc | apply pw_below_drewN | apply below_drew1 | refine below_set ?_ GE1.out) | exact HB.out))) : w.heap.size ≤ gb2)); have n5_ := Aside0.mk ((by rw [hg]; exact Nat.ne_of_lt (blk_lt (g := gb1) (o := .cells #[.int .u32 a0_0, .int .i64 a0_1] 35 (0, 0)) (by (with_reducible repeat (first | refine blk_drewN ?_ _ | refine blk_drew ?_ | refine blk_alloc ?_ _)); exact BK1.out)) : gb1 ≠ gb2)); have n6_ := Aside0.mk ((by rw [hg]; exact Nat.ne_of_gt (blk_lt (g := gb1) (o := .cells #[.int .u32 a0_0, .int .i64 a0_1] 35 (0, 0)) (by (with_reducible repeat (first | refine blk_drewN ?_ _ | refine blk_drew ?_ | refine blk_alloc ?_ _)); exact BK1.out)) : gb2 ≠ gb1)); clear BK1; clear HB; have BK1 := n0_; have HB := n1_; have BK2 := n2_; have GW2 := n3_; have GE2 := n4_; have NB1_2 := n5_; have NB2_1 := n6_; clear n0_ n1_ n2_ n3_ n4_ n5_ n6_; clear hb hbox hg; have hnb6 := NB1_2.out; have hnc6 := NB2_1.out; have hcz7_0 : w5.cell? ⟨gb1, 0, none⟩ = some (.int .u32 a0_0) := (blk_cell BK1.out 0).trans rfl; have hcz7_1 : w5.cell? ⟨gb1, 1, none⟩ = some (.int .i64 a0_1) := (blk_cell BK1.out 1).trans rfl; have hfz7_0 := blk_frozen BK1.out 0; have hfz7_1 := blk_frozen BK1.out 1))
 go_loopg [4, 5] k (fun kq v4 v5 w' => ∃ (x4_1 : Int) (x5_1 : Int), v4 = .int .u64 x4_1 ∧ v5 = .int .i64 x5_1 ∧ Aside0 (q21z.l0 kq ji3 x4_1 x5_1 a0_0 a0_1 = some (r1, r2)) ∧ Aside0 (kq ≤ k) ∧ Aside0 (w'.heap[gb1]? = some (.cells #[.int .u32 a0_0, .int .i64 a0_1] 35 (0, 0))) ∧ Aside0 (w'.heap[gb2]? = some (.cells #[.int .u32 0, .int .i64 0] 35 (0, 0))) ∧ Aside0 (Below w.heap.size w w'))
 case atStart => exact ⟨(1), (ji3), (by first | rfl | (simp; done) | (simp [*]; done)), (by first | rfl | (simp; done) | (simp only [← hji3] <;> (first | rfl | simp)) | (simp [*]; done)), H', ⟨Nat.le_refl _⟩, ⟨by (with_reducible repeat (first | refine blk_drewN ?_ _ | refine blk_drew ?_ | refine blk_alloc ?_ _)); exact BK1.out⟩, ⟨by (with_reducible repeat (first | refine blk_drewN ?_ _ | refine blk_drew ?_ | refine blk_alloc ?_ _)); exact BK2.out⟩, ⟨by repeat (first | (with_reducible first | exact HB.out | apply below_alloc | apply pw_below_drewN | apply below_drew1 | refine below_set ?_ GE1.out | refine below_set ?_ GE2.out) | exact HB.out)⟩⟩
 case round =>
  clear H'
  try clear p2
  try clear c3
  try clear c6
  try clear hcz7_0
  try clear hcz7_1
  try clear hfz7_0
  try clear hfz7_1
  obtain ⟨x4_1, x5_1, rfl, rfl, HA, HK1, BK1, BK2, HB⟩ := hrel
  cases gk with
  | zero => exact absurd HA.out (by simp [q21z.l0])
  | succ k1 =>
   have H := HA.out
   clear HA
   simp only [q21z.l0] at H
   by_cases c8 : x5_1 < 32
   ·
    rw [if_pos c8] at H
    have c8b0 : decide (x5_1 < 32) = true := decide_eq_true c8
    clear c8
    have H' := Aside0.mk H
    clear H
    go_wp2
    go_roundg k1
    case measure => have := HK1.out; omega
    case rel => exact ⟨(IntKind.u64.wrap (2 * x4_1)), (wrap64 (x5_1 + 1)), (by first | rfl | (simp; done) | (simp [*]; done)), (by first | rfl | (simp; done) | (simp [*]; done)), H', ⟨by have := HK1.out; omega⟩, ⟨by (with_reducible repeat (first | refine blk_drewN ?_ _ | refine blk_drew ?_ | refine blk_alloc ?_ _)); exact BK1.out⟩, ⟨by (with_reducible repeat (first | refine blk_drewN ?_ _ | refine blk_drew ?_ | refine blk_alloc ?_ _)); exact BK2.out⟩, ⟨by repeat (first | (with_reducible first | exact HB.out | apply below_alloc | apply pw_below_drewN | apply below_drew1 | refine below_set ?_ GE1.out | refine below_set ?_ GE2.out) | exact HB.out)⟩⟩
   ·
    rw [if_neg c8] at H
    have c8b0 : decide (x5_1 < 32) = false := decide_eq_false c8
    clear c8
    by_cases c9 : x4_1 = 0
    ·
     rw [if_pos c9] at H
     exact absurd H (by simp)
    ·
     rw [if_neg c9] at H
     have c9b0 : (x4_1 == 0) = false := beq_eq_false_iff_ne.mpr c9
     have c9b1 : (x4_1 != 0) = true := bne_iff_ne.mpr c9
     simp only [Option.some.injEq, Prod.mk.injEq] at H
     obtain ⟨rfl, rfl⟩ := H
     have hnb10 := NB1_2.out
     have hnc10 := NB2_1.out
     have hcz11_0 : wr.cell? ⟨gb1, 0, none⟩ = some (.int .u32 a0_0) := (blk_cell BK1.out 0).trans rfl
     have hcz11_1 : wr.cell? ⟨gb1, 1, none⟩ = some (.int .i64 a0_1) := (blk_cell BK1.out 1).trans rfl
     have hfz11_0 := blk_frozen BK1.out 0
     have hfz11_1 := blk_frozen BK1.out 1
     have hcz12_0 : wr.cell? ⟨gb2, 0, none⟩ = some (.int .u32 0) := (blk_cell BK2.out 0).trans rfl
     have hcz12_1 : wr.cell? ⟨gb2, 1, none⟩ = some (.int .i64 0) := (blk_cell BK2.out 1).trans rfl
     have hfz12_0 := blk_frozen BK2.out 0
     have hfz12_1 := blk_frozen BK2.out 1
     go_wp2
     refine bodyPost_ret (results_cell_row rfl _ _ gb2 35 #[.int .u32 ((IntKind.u64.wrap ((IntKind.u64.wrap (Int.tdiv (IntKind.u64.wrap (a0_0)) x4_1)) * x4_1)) % 4294967296), .int .i64 ji3] (0, 0) _ rfl (by (with_reducible repeat (first | refine blk_drewN ?_ _ | refine blk_drew ?_ | refine blk_alloc ?_ _)); refine blk_put (cs := #[.int .u32 ((IntKind.u64.wrap ((IntKind.u64.wrap (Int.tdiv (IntKind.u64.wrap (a0_0)) x4_1)) * x4_1)) % 4294967296), .int .i64 0]) ?_ 1 _ rfl; (with_reducible repeat (first | refine blk_drewN ?_ _ | refine blk_drew ?_ | refine blk_alloc ?_ _)); refine blk_put (cs := #[.int .u32 0, .int .i64 0]) ?_ 0 _ rfl; (with_reducible repeat (first | refine blk_drewN ?_ _ | refine blk_drew ?_ | refine blk_alloc ?_ _)); exact BK2.out) Try.underlying35 rfl (by kernel_rfl)) rfl ?_
     exact ⟨by first | rfl | (simp [errW_none, errW_some] <;> rfl) | (simp only [← hji2, ← hji3]; first | rfl | (simp [errW_none, errW_some] <;> rfl)) | (simp [*, errW_none, errW_some] <;> rfl), by repeat (first | (with_reducible first | exact HB.out | apply below_alloc | apply pw_below_drewN | apply below_drew1 | refine below_set ?_ GE1.out | refine below_set ?_ GE2.out) | exact HB.out)⟩

end Go.Proofs.Ythekledcoeeheaa.P

namespace Go.Proofs.Ythekledcoeeheaa.P
open Go.RowKit Go.Proofs.YthekledcoeeheaaW.PrintWords Go.Proofs.YthekledcoeeheaaW.PrintLast Go.Proofs.YthekledcoeeheaaW.PrintMore
attribute [local go_sem] max2_int min2_int max_two min_two max_three min_three max_four min_four
set_option linter.unusedVariables false
set_option linter.unusedSimpArgs false

attribute [local go_sem high] eqA35
/-! ### dragomanref03_Right: function 57 -/
def q22z.f (k : Nat) (a0_0 : Int) (a0_1 : Int) : Option (Bool) := (q21z.f k a0_0 a0_1).bind fun bt2 => (some (a0_0 == bt2.1 && (a0_1 == bt2.2)))
theorem q22z.mono : ∀ a0 a1 k, LeO (q22z.f k a0 a1) (q22z.f (k + 1) a0 a1) := by
 intro a0 a1 k
 unfold q22z.f
 repeat' first
   | (with_reducible exact q21z.mono _ _ _)
   | (with_reducible exact LeO.refl _)
   | (with_reducible exact LeO.none _)
   | (with_reducible refine LeO.ite ?_ ?_)
   | (with_reducible refine LeO.bind ?_ (fun _ => ?_))
   | exact q21z.mono _ _ _
   | exact LeO.none _
   | refine LeO.ite ?_ ?_
   | refine LeO.bind ?_ (fun _ => ?_)
set_option maxHeartbeats 8000000 in
set_option maxRecDepth 100000 in
theorem q22z.calls (k : Nat) (a0_0 : Int) (a0_1 : Int) (r : Bool) (w : World) (h : q22z.f k a0_0 a0_1 = some r) :
  Calls Try.prog 57 #[.agg #[.int .u32 a0_0, .int .i64 a0_1]] w fun e w' => e = .returned (.bool r) ∧ Below w.heap.size w w' := by
 have hu35 := Try.underlying35
 have HB := Aside0.mk (Below.refl w.heap.size w)
 have H : ((q21z.f k a0_0 a0_1).bind fun bt2 => (some (a0_0 == bt2.1 && (a0_1 == bt2.2)))) = some r := h
 clear h
 replace H := Option.bind_eq_some_iff.mp H
 obtain ⟨⟨t2, t3⟩, A20, H⟩ := H
 replace H : (some (a0_0 == t2 && (a0_1 == t3))) = some r := H
 have A2 := Aside0.mk A20
 clear A20
 obtain rfl := Option.some.inj H
 go_enter Try.func57, Try.ntmps57
 try go_wp2_with (first | ((with_reducible refine gate_dst (N := 1) rfl ?_); refine box_event ?hg (N := 1) ?hd (cs := #[.int .u32 a0_0, .int .i64 a0_1]) (t := 35) ?hr ?_; (case hd => rfl); (case hg => rfl); (case hr => first | (go_simp; done) | (go_simp; rfl)); intro gb1 hg w3 hbox hb; have n0_ := Aside0.mk (below_step (by repeat (first | (with_reducible first | exact HB.out | apply below_alloc | apply pw_below_drewN | apply below_drew1) | exact HB.out)) hb); have n1_ := Aside0.mk (hbox); have n2_ := Aside0.mk ((by rw [hg]; exact (below_size (by repeat (first | (with_reducible first | exact HB.out | apply below_alloc | apply pw_below_drewN | apply below_drew1) | exact HB.out))) : w.heap.size ≤ gb1)); have n3_ := Aside0.mk ((by rw [hg]; exact (below_size (by repeat (first | (with_reducible first | exact HB.out | apply below_alloc | apply pw_below_drewN | apply below_drew1) | exact HB.out))) : w.heap.size ≤ gb1)); clear HB; have HB := n0_; have BK1 := n1_; have GW1 := n2_; have GE1 := n3_; clear n0_ n1_ n2_ n3_; clear hb hbox hg))
 have n0_ := Aside0.mk (blk_drew BK1.out)
 have n1_ := Aside0.mk (below_drew1 HB.out)
 clear BK1
 clear HB
 have BK1 := n0_
 have HB := n1_
 clear n0_ n1_
 refine start_ (n := 5) (S := fun w' => w'.cell? ⟨gb1, 0, none⟩ = some (.int .u32 a0_0) ∧ w'.cell? ⟨gb1, 1, none⟩ = some (.int .i64 a0_1)) (ds := []) #[false, false, false, false, false] (by kernel_rfl) rfl rfl ⟨(blk_cell BK1.out 0).trans rfl, (blk_cell BK1.out 1).trans rfl⟩ (fun hHeld => ?_)
 generalize w3.drew = w4 at BK1 HB hHeld ⊢
 refine take_ (i := 0) (N := some 3) (v := ?_) (a' := ?_) #[true, false, false, false, false] rfl rfl (by kernel_rfl) (fun _ _ _ h => h) (Or.inl ⟨by rfl, ?_⟩) hHeld ?_ ?_
 rotate_left
 ·
  rintro w' ⟨s0, s1⟩
  go_simp
  with_reducible rfl
 rotate_left
 ·
  simp only [Act.put, List.setIfInBounds_toArray, List.set_cons_zero, List.set_cons_succ, i64_w, i32_w, IntKind.wrap_u32]
  rfl
 refine take_ (i := 1) (N := some 4) (v := ?_) (a' := ?_) #[true, true, false, false, false] rfl rfl (by kernel_rfl) (fun _ _ _ h => h) (Or.inl ⟨by rfl, ?_⟩) hHeld ?_ ?_
 rotate_left
 ·
  rintro w' ⟨s0, s1⟩
  go_simp
  with_reducible rfl
 rotate_left
 ·
  simp only [Act.put, List.setIfInBounds_toArray, List.set_cons_zero, List.set_cons_succ, i64_w, i32_w, IntKind.wrap_u32]
  rfl
 refine one_ (i := 2) (N := some 5) #[true, true, true, false, false] rfl rfl (by kernel_rfl) (by decide) (fun K hK => ?_)
 refine goes_ Try.func33 (by kernel_rfl) rfl #[.agg #[.int .u32 a0_0, .int .i64 a0_1]] (by rfl) rfl rfl (by (try simp only [List.map_toArray, List.map_cons, List.map_nil]); first | done | rfl | (simp only [List.length_drop, List.length_take]; rfl)) ?_
 with_reducible refine (q21z.calls k a0_0 a0_1 t2 t3 _ A2.out).mono ?_
 rintro e w5 ⟨rfl, hb⟩
 refine ⟨_, rfl, ?_⟩
 have n0_ := Aside0.mk (blk_below (g := gb1) (o := .cells #[.int .u32 a0_0, .int .i64 a0_1] 35 (0, 0)) (by (with_reducible repeat (first | refine blk_drewN ?_ _ | refine blk_drew ?_ | refine blk_alloc ?_ _)); exact BK1.out) hb)
 have n1_ := Aside0.mk (below_step (by repeat (first | (with_reducible first | exact HB.out | apply below_alloc | apply pw_below_drewN | apply below_drew1 | refine below_set ?_ GE1.out) | exact HB.out)) hb)
 clear BK1
 clear HB
 have BK1 := n0_
 have HB := n1_
 clear n0_ n1_
 (try clear hb)
 (try clear hb2)
 (try clear hk)
 (try clear hi)
 refine hK.out _ _ ⟨(blk_cell BK1.out 0).trans rfl, (blk_cell BK1.out 1).trans rfl⟩ (fun hHeld => ?_)
 clear hK K
 refine norm_ (a' := ?_) ?_ ?_
 rotate_left
 ·
  show Act.put _ (some 5) _ = _
  simp only [Act.put, List.setIfInBounds_toArray, List.set_cons_zero, List.set_cons_succ, i64_w, i32_w, IntKind.wrap_u32]
  rfl
 refine pure_ (i := 3) (N := some 6) (v := ?_) (a' := ?_) #[true, true, true, true, false] rfl rfl (by kernel_rfl) (fun _ _ _ h => h) (Or.inl ⟨by rfl, ?_⟩) ?_ ?_
 rotate_left
 ·
  intro w'
  go_simp
  with_reducible rfl
 rotate_left
 ·
  simp only [Act.put, List.setIfInBounds_toArray, List.set_cons_zero, List.set_cons_succ, i64_w, i32_w, IntKind.wrap_u32]
  rfl
 refine pure_ (i := 4) (N := some 2) (v := ?_) (a' := ?_) #[true, true, true, true, true] rfl rfl (by kernel_rfl) (fun _ _ _ h => h) (Or.inl ⟨by rfl, ?_⟩) ?_ ?_
 rotate_left
 ·
  intro w'
  go_simp
  with_reducible rfl
 rotate_left
 ·
  simp only [Act.put, List.setIfInBounds_toArray, List.set_cons_zero, List.set_cons_succ, i64_w, i32_w, IntKind.wrap_u32]
  rfl
 refine done_ (by kernel_rfl) ?_
 try go_wp2
 go_ret
 exact ⟨by first | rfl | (simp [errW_none, errW_some] <;> rfl) | (simp [*, errW_none, errW_some] <;> rfl), by repeat (first | (with_reducible first | exact HB.out | apply below_alloc | apply pw_below_drewN | apply below_drew1 | refine below_set ?_ GE1.out) | exact HB.out)⟩

end Go.Proofs.Ythekledcoeeheaa.P

namespace Go.Proofs.Ythekledcoeeheaa.P
open Go.RowKit Go.Proofs.YthekledcoeeheaaW.PrintWords Go.Proofs.YthekledcoeeheaaW.PrintLast Go.Proofs.YthekledcoeeheaaW.PrintMore
attribute [local go_sem] max2_int min2_int max_two min_two max_three min_three max_four min_four
set_option linter.unusedVariables false
set_option linter.unusedSimpArgs false

/-! ### dragomanref03_rises: function 58 -/
def q23z.l0 : Nat → List Int → Int → Int → Option (Bool)
 | 0, _, _, _ => none
 | k + 1, x0, x5, x6 => if x6 < x5 then (if x6 > 0 then (if 0 ≤ x6 then (if x6 < (x0.length : Int) then (if 0 ≤ (wrap64 (x6 - 1)) then (if (wrap64 (x6 - 1)) < (x0.length : Int) then (if (rd x0 x6) ≤ (rd x0 (wrap64 (x6 - 1))) then (some false) else (q23z.l0 k x0 x5 (wrap64 (x6 + 1)))) else (none)) else (none)) else (none)) else (none)) else (q23z.l0 k x0 x5 (wrap64 (x6 + 1)))) else (some true)
def q23z.f (k : Nat) (l0 : List Int) : Option (Bool) := q23z.l0 k l0 (l0.length : Int) 0
theorem q23z.mono_l : ∀ k, (∀ y0 y1 y2, LeO (q23z.l0 k y0 y1 y2) (q23z.l0 (k + 1) y0 y1 y2))
 | 0 => fun _ _ _ r h => by simp [q23z.l0] at h
 | k + 1 => by
  have ih0 := q23z.mono_l k
  ·
   intro y0 y1 y2
   unfold q23z.l0
   repeat' first
   | (with_reducible exact ih0 _ _ _)
   | (with_reducible exact LeO.refl _)
   | (with_reducible exact LeO.none _)
   | (with_reducible refine LeO.ite ?_ ?_)
   | (with_reducible refine LeO.bind ?_ (fun _ => ?_))
   | exact ih0 _ _ _
   | exact LeO.none _
   | refine LeO.ite ?_ ?_
   | refine LeO.bind ?_ (fun _ => ?_)
theorem q23z.mono : ∀ a0 k, LeO (q23z.f k a0) (q23z.f (k + 1) a0) := by
 intro a0 k
 have ih0 := q23z.mono_l k
 unfold q23z.f
 repeat' first
   | (with_reducible exact ih0 _ _ _)
   | (with_reducible exact LeO.refl _)
   | (with_reducible exact LeO.none _)
   | (with_reducible refine LeO.ite ?_ ?_)
   | (with_reducible refine LeO.bind ?_ (fun _ => ?_))
   | exact ih0 _ _ _
   | exact LeO.none _
   | refine LeO.ite ?_ ?_
   | refine LeO.bind ?_ (fun _ => ?_)
set_option maxHeartbeats 8000000 in
set_option maxRecDepth 100000 in
theorem q23z.calls (k : Nat) (A0 : Option Addr) (c0 : Nat) (l0 : List Int) (r : Bool) (w : World) (hr0 : Kd.C (Kd.int .u32) w A0 l0.length l0) (hc0 : l0.length ≤ c0) (h : q23z.f k l0 = some r) :
  Calls Try.prog 58 #[.slice A0 l0.length c0] w fun e w' => e = .returned (.bool r) ∧ Drawn0 w w' := by
 have HR0 := Aside0.mk hr0
 have HC0 := Aside0.mk hc0
 clear hr0 hc0
 have H : (q23z.l0 k l0 (l0.length : Int) 0) = some r := h
 clear h
 have H' := Aside0.mk H
 clear H
 go_enter Try.func58, Try.ntmps58
 go_wp2
 repeat (go_quiet (fail); try go_wp2)
 go_loopg [6] k (fun kq v6 w' => ∃ (x6_1 : Int), v6 = .int .i64 x6_1 ∧ Aside0 (q23z.l0 kq l0 (l0.length : Int) x6_1 = some r) ∧ Aside0 (kq ≤ k) ∧ Drawn0 w w')
 case atStart => exact ⟨(0), (by first | rfl | (simp; done) | (simp [*]; done)), H', ⟨Nat.le_refl _⟩, by repeat (first | exact Drawn0.refl _ | apply Drawn0.step)⟩
 case round =>
  clear H'
  obtain ⟨x6_1, rfl, HA, HK1, ⟨m1, rfl⟩⟩ := hrel
  cases gk with
  | zero => exact absurd HA.out (by simp [q23z.l0])
  | succ k1 =>
   have H := HA.out
   clear HA
   simp only [q23z.l0] at H
   by_cases c2 : x6_1 < (l0.length : Int)
   ·
    rw [if_pos c2] at H
    have c2b0 : decide (x6_1 < (l0.length : Int)) = true := decide_eq_true c2
    clear c2
    by_cases c3 : x6_1 > 0
    ·
     rw [if_pos c3] at H
     have c3b0 : decide (0 < x6_1) = true := decide_eq_true c3
     clear c3
     by_cases c4 : 0 ≤ x6_1
     ·
      rw [if_pos c4] at H
      have c4b0 : decide (0 ≤ x6_1) = true := decide_eq_true c4
      clear c4
      by_cases c5 : x6_1 < (l0.length : Int)
      ·
       rw [if_pos c5] at H
       have c5b0 : decide (x6_1 < (l0.length : Int)) = true := decide_eq_true c5
       clear c5
       obtain ⟨ji6, hji6⟩ : ∃ j_ : Int, (wrap64 (x6_1 - 1)) = j_ := ⟨_, rfl⟩
       replace H : (if 0 ≤ (ji6) then (if (ji6) < (l0.length : Int) then (if (rd l0 x6_1) ≤ (rd l0 (ji6)) then (some false) else (q23z.l0 k1 l0 (l0.length : Int) (wrap64 (x6_1 + 1)))) else (none)) else (none)) = some r := by first | (rw [hji6] at H; exact H) | (simp only [hji6] at H ⊢; exact H)
       have hji6w : (IntKind.i64.wrap (x6_1 - 1)) = ji6 := (i64_w _).trans hji6
       by_cases c7 : 0 ≤ (ji6)
       ·
        rw [if_pos c7] at H
        have c7b0 : decide (0 ≤ (ji6)) = true := decide_eq_true c7
        clear c7
        by_cases c8 : (ji6) < (l0.length : Int)
        ·
         rw [if_pos c8] at H
         have c8b0 : decide ((ji6) < (l0.length : Int)) = true := decide_eq_true c8
         clear c8
         by_cases c9 : (rd l0 x6_1) ≤ (rd l0 (ji6))
         ·
          rw [if_pos c9] at H
          have c9b0 : decide ((rd l0 x6_1) ≤ (rd l0 (ji6))) = true := decide_eq_true c9
          clear c9
          obtain rfl := Option.some.inj H
          have p1 : 0 ≤ (x6_1 : Int) := of_decide_eq_true (by first | (with_reducible assumption) | assumption)
          have q1 : x6_1 < (l0.length : Int) := of_decide_eq_true (by first | (with_reducible assumption) | assumption)
          obtain ⟨ad1, e1, hx1_0⟩ := Kd.at_int HR0.out x6_1 p1 q1
          cases e1
          replace p1 := eq_true p1
          replace q1 := eq_true q1
          have p2 : 0 ≤ ((ji6) : Int) := of_decide_eq_true (by first | (with_reducible assumption) | assumption)
          have q2 : (ji6) < (l0.length : Int) := of_decide_eq_true (by first | (with_reducible assumption) | assumption)
          obtain ⟨ad2, e2, hx2_0⟩ := Kd.at_int HR0.out (ji6) p2 q2
          obtain rfl : ad1 = ad2 := (by injection e2)
          replace p2 := eq_true p2
          replace q2 := eq_true q2
          go_wp2
          repeat (go_quiet (fail); try go_wp2)
          go_ret
          exact ⟨by first | rfl | (simp; done) | (simp only [← hji6] <;> (first | rfl | simp)) | (simp [*]; done), by repeat (first | exact Drawn0.refl _ | apply Drawn0.step)⟩
         ·
          rw [if_neg c9] at H
          have c9b0 : decide ((rd l0 x6_1) ≤ (rd l0 (ji6))) = false := decide_eq_false c9
          clear c9
          have H' := Aside0.mk H
          clear H
          have p1 : 0 ≤ (x6_1 : Int) := of_decide_eq_true (by first | (with_reducible assumption) | assumption)
          have q1 : x6_1 < (l0.length : Int) := of_decide_eq_true (by first | (with_reducible assumption) | assumption)
          obtain ⟨ad1, e1, hx1_0⟩ := Kd.at_int HR0.out x6_1 p1 q1
          cases e1
          replace p1 := eq_true p1
          replace q1 := eq_true q1
          have p2 : 0 ≤ ((ji6) : Int) := of_decide_eq_true (by first | (with_reducible assumption) | assumption)
          have q2 : (ji6) < (l0.length : Int) := of_decide_eq_true (by first | (with_reducible assumption) | assumption)
          obtain ⟨ad2, e2, hx2_0⟩ := Kd.at_int HR0.out (ji6) p2 q2
          obtain rfl : ad1 = ad2 := (by injection e2)
          replace p2 := eq_true p2
          replace q2 := eq_true q2
          go_wp2
          repeat (go_quiet (fail); try go_wp2)
          go_roundg k1
          case measure => have := HK1.out; omega
          case rel => exact ⟨(wrap64 (x6_1 + 1)), (by first | rfl | (simp; done) | (simp [*]; done)), H', ⟨by have := HK1.out; omega⟩, by repeat (first | exact Drawn0.refl _ | apply Drawn0.step)⟩
        ·
         rw [if_neg c8] at H
         exact absurd H (by simp)
       ·
        rw [if_neg c7] at H
        exact absurd H (by simp)
      ·
       rw [if_neg c5] at H
       exact absurd H (by simp)
     ·
      rw [if_neg c4] at H
      exact absurd H (by simp)
    ·
     rw [if_neg c3] at H
     have c3b0 : decide (0 < x6_1) = false := decide_eq_false c3
     clear c3
     have H' := Aside0.mk H
     clear H
     go_wp2
     repeat (go_quiet (fail); try go_wp2)
     go_roundg k1
     case measure => have := HK1.out; omega
     case rel => exact ⟨(wrap64 (x6_1 + 1)), (by first | rfl | (simp; done) | (simp [*]; done)), H', ⟨by have := HK1.out; omega⟩, by repeat (first | exact Drawn0.refl _ | apply Drawn0.step)⟩
   ·
    rw [if_neg c2] at H
    have c2b0 : decide (x6_1 < (l0.length : Int)) = false := decide_eq_false c2
    clear c2
    obtain rfl := Option.some.inj H
    go_wp2
    repeat (go_quiet (fail); try go_wp2)
    go_ret
    exact ⟨by first | rfl | (simp; done) | (simp [*]; done), by repeat (first | exact Drawn0.refl _ | apply Drawn0.step)⟩

end Go.Proofs.Ythekledcoeeheaa.P

namespace Go.Proofs.Ythekledcoeeheaa.P
open Go.RowKit Go.Proofs.YthekledcoeeheaaW.PrintWords Go.Proofs.YthekledcoeeheaaW.PrintLast Go.Proofs.YthekledcoeeheaaW.PrintMore
attribute [local go_sem] max2_int min2_int max_two min_two max_three min_three max_four min_four
set_option linter.unusedVariables false
set_option linter.unusedSimpArgs false

/-! ### dragomanref03_Valid: function 31 -/
def q24z.l0 : Nat → List Int → Int → Int → Int → Int → List Int → List Int → Int → Int → Int → Int → Option (Bool)
 | 0, _, _, _, _, _, _, _, _, _, _, _ => none
 | k + 1, x6, x7, x8, x2000, x2001, x2002, x2003, x2004, x2005, x2006, x2007 => if x8 < x7 then (if 0 ≤ x8 then (if x8 < (x6.length : Int) then (if (rd x6 x8) = 0 then (some false) else (q24z.l0 k x6 x7 (wrap64 (x8 + 1)) x2000 x2001 x2002 x2003 x2004 x2005 x2006 x2007)) else (none)) else (none)) else ((q22z.f k x2000 x2001).bind fun t3 => (if t3 = true then (if (x2002.length : Int) ≤ 255 then ((q23z.f k x2003).bind fun t4 => (if t4 = true then (if (x2003.length : Int) ≤ 255 then (if x2006 ≥ 0 then (some (decide (x2006 ≤ 2))) else (some false)) else (some false)) else (some false))) else (some false)) else (some false)))
def q24z.f (k : Nat) (a0_0 : Int) (a0_1 : Int) (l0_2 : List Int) (l0_3 : List Int) (a0_4 : Int) (a0_5 : Int) (a0_6 : Int) (a0_7 : Int) : Option (Bool) := q24z.l0 k l0_2 (l0_2.length : Int) 0 a0_0 a0_1 l0_2 l0_3 a0_4 a0_5 a0_6 a0_7
theorem q24z.mono_l : ∀ k, (∀ y0 y1 y2 y3 y4 y5 y6 y7 y8 y9 y10, LeO (q24z.l0 k y0 y1 y2 y3 y4 y5 y6 y7 y8 y9 y10) (q24z.l0 (k + 1) y0 y1 y2 y3 y4 y5 y6 y7 y8 y9 y10))
 | 0 => fun _ _ _ _ _ _ _ _ _ _ _ r h => by simp [q24z.l0] at h
 | k + 1 => by
  have ih0 := q24z.mono_l k
  ·
   intro y0 y1 y2 y3 y4 y5 y6 y7 y8 y9 y10
   unfold q24z.l0
   repeat' first
   | (with_reducible exact ih0 _ _ _ _ _ _ _ _ _ _ _)
   | (with_reducible exact q22z.mono _ _ _)
   | (with_reducible exact q23z.mono _ _)
   | (with_reducible exact LeO.refl _)
   | (with_reducible exact LeO.none _)
   | (with_reducible refine LeO.ite ?_ ?_)
   | (with_reducible refine LeO.bind ?_ (fun _ => ?_))
   | exact ih0 _ _ _ _ _ _ _ _ _ _ _
   | exact q22z.mono _ _ _
   | exact q23z.mono _ _
   | exact LeO.none _
   | refine LeO.ite ?_ ?_
   | refine LeO.bind ?_ (fun _ => ?_)
theorem q24z.mono : ∀ a0 a1 a2 a3 a4 a5 a6 a7 k, LeO (q24z.f k a0 a1 a2 a3 a4 a5 a6 a7) (q24z.f (k + 1) a0 a1 a2 a3 a4 a5 a6 a7) := by
 intro a0 a1 a2 a3 a4 a5 a6 a7 k
 have ih0 := q24z.mono_l k
 unfold q24z.f
 repeat' first
   | (with_reducible exact ih0 _ _ _ _ _ _ _ _ _ _ _)
   | (with_reducible exact q22z.mono _ _ _)
   | (with_reducible exact q23z.mono _ _)
   | (with_reducible exact LeO.refl _)
   | (with_reducible exact LeO.none _)
   | (with_reducible refine LeO.ite ?_ ?_)
   | (with_reducible refine LeO.bind ?_ (fun _ => ?_))
   | exact ih0 _ _ _ _ _ _ _ _ _ _ _
   | exact q22z.mono _ _ _
   | exact q23z.mono _ _
   | exact LeO.none _
   | refine LeO.ite ?_ ?_
   | refine LeO.bind ?_ (fun _ => ?_)
set_option maxHeartbeats 8000000 in
set_option maxRecDepth 100000 in
theorem q24z.calls (k : Nat) (a0_0 : Int) (a0_1 : Int) (A0_2 : Option Addr) (c0_2 : Nat) (l0_2 : List Int) (A0_3 : Option Addr) (c0_3 : Nat) (l0_3 : List Int) (a0_4 : Int) (a0_5 : Int) (a0_6 : Int) (a0_7 : Int) (r : Bool) (w : World) (hr0_2 : Kd.C (Kd.int .u32) w A0_2 l0_2.length l0_2) (hc0_2 : l0_2.length ≤ c0_2) (hr0_3 : Kd.C (Kd.int .u32) w A0_3 l0_3.length l0_3) (hc0_3 : l0_3.length ≤ c0_3) (h : q24z.f k a0_0 a0_1 l0_2 l0_3 a0_4 a0_5 a0_6 a0_7 = some r) :
  Calls Try.prog 31 #[.agg #[.int .u32 a0_0, .int .i64 a0_1, .slice A0_2 l0_2.length c0_2, .slice A0_3 l0_3.length c0_3, .int .u32 a0_4, .int .u32 a0_5, .int .i64 a0_6, .int .u32 a0_7]] w fun e w' => e = .returned (.bool r) ∧ Below w.heap.size w w' := by
 have hu38 := Try.underlying38
 have hu35 := Try.underlying35
 have HR0_2 := Aside0.mk hr0_2
 have HC0_2 := Aside0.mk hc0_2
 clear hr0_2 hc0_2
 have HR0_3 := Aside0.mk hr0_3
 have HC0_3 := Aside0.mk hc0_3
 clear hr0_3 hc0_3
 have HB := Aside0.mk (Below.refl w.heap.size w)
 have H : (q24z.l0 k l0_2 (l0_2.length : Int) 0 a0_0 a0_1 l0_2 l0_3 a0_4 a0_5 a0_6 a0_7) = some r := h
 clear h
 have H' := Aside0.mk H
 clear H
 go_enter Try.func31, Try.ntmps31
 go_wp2_with (first | ((with_reducible refine gate_dst (N := 1) rfl ?_); (try (refine gate_guard (by rfl) ?_; dsimp only)); refine box_event ?hg (N := 1) ?hd (cs := #[.int .u32 a0_0, .int .i64 a0_1, .slice A0_2 l0_2.length c0_2, .slice A0_3 l0_3.length c0_3, .int .u32 a0_4, .int .u32 a0_5, .int .i64 a0_6, .int .u32 a0_7]) (t := 38) ?hr ?_; (case hd => rfl); (case hg => rfl); (case hr => first | (go_simp; done) | (go_simp; rfl)); intro gb1 hg w2 hbox hb; have n0_ := Aside0.mk (below_step (by repeat (first | (with_reducible first | exact HB.out | apply below_alloc | apply pw_below_drewN | apply below_drew1) | exact HB.out)) hb); have n1_ := Aside0.mk (hbox); have n2_ := Aside0.mk ((by rw [hg]; exact (below_size (by repeat (first | (with_reducible first | exact HB.out | apply below_alloc | apply pw_below_drewN | apply below_drew1) | exact HB.out))) : w.heap.size ≤ gb1)); have n3_ := Aside0.mk ((by rw [hg]; exact (below_size (by repeat (first | (with_reducible first | exact HB.out | apply below_alloc | apply pw_below_drewN | apply below_drew1) | exact HB.out))) : w.heap.size ≤ gb1)); clear HB; have HB := n0_; have BK1 := n1_; have GW1 := n2_; have GE1 := n3_; clear n0_ n1_ n2_ n3_; clear hb hbox hg; have hcz3_0 : w2.cell? ⟨gb1, 0, none⟩ = some (.int .u32 a0_0) := (blk_cell BK1.out 0).trans rfl; have hcz3_1 : w2.cell? ⟨gb1, 1, none⟩ = some (.int .i64 a0_1) := (blk_cell BK1.out 1).trans rfl; have hcz3_2 : w2.cell? ⟨gb1, 2, none⟩ = some (.slice A0_2 l0_2.length c0_2) := (blk_cell BK1.out 2).trans rfl; have hcz3_3 : w2.cell? ⟨gb1, 3, none⟩ = some (.slice A0_3 l0_3.length c0_3) := (blk_cell BK1.out 3).trans rfl; have hcz3_4 : w2.cell? ⟨gb1, 4, none⟩ = some (.int .u32 a0_4) := (blk_cell BK1.out 4).trans rfl; have hcz3_5 : w2.cell? ⟨gb1, 5, none⟩ = some (.int .u32 a0_5) := (blk_cell BK1.out 5).trans rfl; have hcz3_6 : w2.cell? ⟨gb1, 6, none⟩ = some (.int .i64 a0_6) := (blk_cell BK1.out 6).trans rfl; have hcz3_7 : w2.cell? ⟨gb1, 7, none⟩ = some (.int .u32 a0_7) := (blk_cell BK1.out 7).trans rfl; have hfz3_0 := blk_frozen BK1.out 0; have hfz3_1 := blk_frozen BK1.out 1; have hfz3_2 := blk_frozen BK1.out 2; have hfz3_3 := blk_frozen BK1.out 3; have hfz3_4 := blk_frozen BK1.out 4; have hfz3_5 := blk_frozen BK1.out 5; have hfz3_6 := blk_frozen BK1.out 6; have hfz3_7 := blk_frozen BK1.out 7))
 go_loopg [8] k (fun kq v8 w' => ∃ (x8_1 : Int), v8 = .int .i64 x8_1 ∧ Aside0 (q24z.l0 kq l0_2 (l0_2.length : Int) x8_1 a0_0 a0_1 l0_2 l0_3 a0_4 a0_5 a0_6 a0_7 = some r) ∧ Aside0 (kq ≤ k) ∧ Aside0 (w'.heap[gb1]? = some (.cells #[.int .u32 a0_0, .int .i64 a0_1, (.slice A0_2 l0_2.length c0_2), (.slice A0_3 l0_3.length c0_3), .int .u32 a0_4, .int .u32 a0_5, .int .i64 a0_6, .int .u32 a0_7] 38 (0, 0))) ∧ Aside0 (Below w.heap.size w w'))
 case atStart => exact ⟨(0), (by first | rfl | (simp; done) | (simp [*]; done)), H', ⟨Nat.le_refl _⟩, ⟨by (with_reducible repeat (first | refine blk_drewN ?_ _ | refine blk_drew ?_ | refine blk_alloc ?_ _)); exact BK1.out⟩, ⟨by repeat (first | (with_reducible first | exact HB.out | apply below_alloc | apply pw_below_drewN | apply below_drew1 | refine below_set ?_ GE1.out) | exact HB.out)⟩⟩
 case round =>
  clear H'
  try clear p2
  try clear c3
  try clear hcz3_0
  try clear hcz3_1
  try clear hcz3_2
  try clear hcz3_3
  try clear hcz3_4
  try clear hcz3_5
  try clear hcz3_6
  try clear hcz3_7
  try clear hfz3_0
  try clear hfz3_1
  try clear hfz3_2
  try clear hfz3_3
  try clear hfz3_4
  try clear hfz3_5
  try clear hfz3_6
  try clear hfz3_7
  obtain ⟨x8_1, rfl, HA, HK1, BK1, HB⟩ := hrel
  cases gk with
  | zero => exact absurd HA.out (by simp [q24z.l0])
  | succ k1 =>
   have H := HA.out
   clear HA
   simp only [q24z.l0] at H
   by_cases c4 : x8_1 < (l0_2.length : Int)
   ·
    rw [if_pos c4] at H
    have c4b0 : decide (x8_1 < (l0_2.length : Int)) = true := decide_eq_true c4
    clear c4
    by_cases c5 : 0 ≤ x8_1
    ·
     rw [if_pos c5] at H
     have c5b0 : decide (0 ≤ x8_1) = true := decide_eq_true c5
     clear c5
     by_cases c6 : x8_1 < (l0_2.length : Int)
     ·
      rw [if_pos c6] at H
      have c6b0 : decide (x8_1 < (l0_2.length : Int)) = true := decide_eq_true c6
      clear c6
      by_cases c7 : (rd l0_2 x8_1) = 0
      ·
       rw [if_pos c7] at H
       have c7b0 : ((rd l0_2 x8_1) == 0) = true := beq_iff_eq.mpr c7
       have c7b1 : ((rd l0_2 x8_1) != 0) = false := bne_eq_false_iff_eq.mpr c7
       clear c7
       obtain rfl := Option.some.inj H
       have p2 : 0 ≤ (x8_1 : Int) := of_decide_eq_true (by first | (with_reducible assumption) | assumption)
       have q2 : x8_1 < (l0_2.length : Int) := of_decide_eq_true (by first | (with_reducible assumption) | assumption)
       obtain ⟨ad2, e2, hx2_0⟩ := Kd.at_int HR0_2.out x8_1 p2 q2
       cases e2
       replace hx2_0 := (HB.out.cell (World.block_lt_of_cell? w _ hx2_0)).trans hx2_0
       replace p2 := eq_true p2
       replace q2 := eq_true q2
       go_wp2
       go_ret
       exact ⟨by first | rfl | (simp [errW_none, errW_some] <;> rfl) | (simp [*, errW_none, errW_some] <;> rfl), by repeat (first | (with_reducible first | exact HB.out | apply below_alloc | apply pw_below_drewN | apply below_drew1 | refine below_set ?_ GE1.out) | exact HB.out)⟩
      ·
       rw [if_neg c7] at H
       have c7b0 : ((rd l0_2 x8_1) == 0) = false := beq_eq_false_iff_ne.mpr c7
       have c7b1 : ((rd l0_2 x8_1) != 0) = true := bne_iff_ne.mpr c7
       have H' := Aside0.mk H
       clear H
       have p2 : 0 ≤ (x8_1 : Int) := of_decide_eq_true (by first | (with_reducible assumption) | assumption)
       have q2 : x8_1 < (l0_2.length : Int) := of_decide_eq_true (by first | (with_reducible assumption) | assumption)
       obtain ⟨ad2, e2, hx2_0⟩ := Kd.at_int HR0_2.out x8_1 p2 q2
       cases e2
       replace hx2_0 := (HB.out.cell (World.block_lt_of_cell? w _ hx2_0)).trans hx2_0
       replace p2 := eq_true p2
       replace q2 := eq_true q2
       go_wp2
       go_roundg k1
       case measure => have := HK1.out; omega
       case rel => exact ⟨(wrap64 (x8_1 + 1)), (by first | rfl | (simp; done) | (simp [*]; done)), H', ⟨by have := HK1.out; omega⟩, ⟨by (with_reducible repeat (first | refine blk_drewN ?_ _ | refine blk_drew ?_ | refine blk_alloc ?_ _)); exact BK1.out⟩, ⟨by repeat (first | (with_reducible first | exact HB.out | apply below_alloc | apply pw_below_drewN | apply below_drew1 | refine below_set ?_ GE1.out) | exact HB.out)⟩⟩
     ·
      rw [if_neg c6] at H
      exact absurd H (by simp)
    ·
     rw [if_neg c5] at H
     exact absurd H (by simp)
   ·
    rw [if_neg c4] at H
    have c4b0 : decide (x8_1 < (l0_2.length : Int)) = false := decide_eq_false c4
    clear c4
    replace H := Option.bind_eq_some_iff.mp H
    obtain ⟨t3, A80, H⟩ := H
    replace H : (if t3 = true then (if (l0_2.length : Int) ≤ 255 then ((q23z.f k1 l0_3).bind fun t4 => (if t4 = true then (if (l0_3.length : Int) ≤ 255 then (if a0_6 ≥ 0 then (some (decide (a0_6 ≤ 2))) else (some false)) else (some false)) else (some false))) else (some false)) else (some false)) = some r := H
    have A8 := Aside0.mk A80
    clear A80
    by_cases c9 : t3 = true
    ·
     subst c9
     have H1 : (if (l0_2.length : Int) ≤ 255 then ((q23z.f k1 l0_3).bind fun t4 => (if t4 = true then (if (l0_3.length : Int) ≤ 255 then (if a0_6 ≥ 0 then (some (decide (a0_6 ≤ 2))) else (some false)) else (some false)) else (some false))) else (some false)) = some r := by rw [if_pos rfl] at H; exact H
     clear H
     have H := H1
     clear H1
     by_cases c10 : (l0_2.length : Int) ≤ 255
     ·
      rw [if_pos c10] at H
      have c10b0 : decide ((l0_2.length : Int) ≤ 255) = true := decide_eq_true c10
      have c10b1 : decide (l0_2.length ≤ 255) = true := decide_eq_true (by omega)
      clear c10
      replace H := Option.bind_eq_some_iff.mp H
      obtain ⟨t4, A110, H⟩ := H
      replace H : (if t4 = true then (if (l0_3.length : Int) ≤ 255 then (if a0_6 ≥ 0 then (some (decide (a0_6 ≤ 2))) else (some false)) else (some false)) else (some false)) = some r := H
      have A11 := Aside0.mk A110
      clear A110
      by_cases c12 : t4 = true
      ·
       subst c12
       have H1 : (if (l0_3.length : Int) ≤ 255 then (if a0_6 ≥ 0 then (some (decide (a0_6 ≤ 2))) else (some false)) else (some false)) = some r := by rw [if_pos rfl] at H; exact H
       clear H
       have H := H1
       clear H1
       by_cases c13 : (l0_3.length : Int) ≤ 255
       ·
        rw [if_pos c13] at H
        have c13b0 : decide ((l0_3.length : Int) ≤ 255) = true := decide_eq_true c13
        have c13b1 : decide (l0_3.length ≤ 255) = true := decide_eq_true (by omega)
        clear c13
        by_cases c14 : a0_6 ≥ 0
        ·
         rw [if_pos c14] at H
         have c14b0 : decide (0 ≤ a0_6) = true := decide_eq_true c14
         clear c14
         obtain rfl := Option.some.inj H
         have hcz15_0 : wr.cell? ⟨gb1, 0, none⟩ = some (.int .u32 a0_0) := (blk_cell BK1.out 0).trans rfl
         have hcz15_1 : wr.cell? ⟨gb1, 1, none⟩ = some (.int .i64 a0_1) := (blk_cell BK1.out 1).trans rfl
         have hcz15_2 : wr.cell? ⟨gb1, 2, none⟩ = some (.slice A0_2 l0_2.length c0_2) := (blk_cell BK1.out 2).trans rfl
         have hcz15_3 : wr.cell? ⟨gb1, 3, none⟩ = some (.slice A0_3 l0_3.length c0_3) := (blk_cell BK1.out 3).trans rfl
         have hcz15_4 : wr.cell? ⟨gb1, 4, none⟩ = some (.int .u32 a0_4) := (blk_cell BK1.out 4).trans rfl
         have hcz15_5 : wr.cell? ⟨gb1, 5, none⟩ = some (.int .u32 a0_5) := (blk_cell BK1.out 5).trans rfl
         have hcz15_6 : wr.cell? ⟨gb1, 6, none⟩ = some (.int .i64 a0_6) := (blk_cell BK1.out 6).trans rfl
         have hcz15_7 : wr.cell? ⟨gb1, 7, none⟩ = some (.int .u32 a0_7) := (blk_cell BK1.out 7).trans rfl
         have hfz15_0 := blk_frozen BK1.out 0
         have hfz15_1 := blk_frozen BK1.out 1
         have hfz15_2 := blk_frozen BK1.out 2
         have hfz15_3 := blk_frozen BK1.out 3
         have hfz15_4 := blk_frozen BK1.out 4
         have hfz15_5 := blk_frozen BK1.out 5
         have hfz15_6 := blk_frozen BK1.out 6
         have hfz15_7 := blk_frozen BK1.out 7
         go_wp2_with (first | ((with_reducible refine gate_callee (f := 57) rfl ?_); refine goesL_ (some 17) rfl rfl Try.func57 (by kernel_rfl) rfl #[.agg #[.int .u32 a0_0, .int .i64 a0_1]] rfl (by (try simp only [List.map_toArray, List.map_cons, List.map_nil]); first | done | rfl | (simp only [List.length_drop, List.length_take]; rfl)) ?_; (with_reducible refine (q22z.calls k1 a0_0 a0_1 true _ A8.out).mono ?_); rintro e w16 ⟨rfl, hb⟩; refine ⟨_, rfl, ?_⟩; have n0_ := Aside0.mk (blk_below (g := gb1) (o := .cells #[.int .u32 a0_0, .int .i64 a0_1, .slice A0_2 l0_2.length c0_2, .slice A0_3 l0_3.length c0_3, .int .u32 a0_4, .int .u32 a0_5, .int .i64 a0_6, .int .u32 a0_7] 38 (0, 0)) (by (with_reducible repeat (first | refine blk_drewN ?_ _ | refine blk_drew ?_ | refine blk_alloc ?_ _)); exact BK1.out) hb); have n1_ := Aside0.mk (below_step (by repeat (first | (with_reducible first | exact HB.out | apply below_alloc | apply pw_below_drewN | apply below_drew1 | refine below_set ?_ GE1.out) | exact HB.out)) hb); clear BK1; clear HB; have BK1 := n0_; have HB := n1_; clear n0_ n1_; (try clear hb); (try clear hb2); (try clear hk); (try clear hi); have hcz17_0 : w16.cell? ⟨gb1, 0, none⟩ = some (.int .u32 a0_0) := (blk_cell BK1.out 0).trans rfl; have hcz17_1 : w16.cell? ⟨gb1, 1, none⟩ = some (.int .i64 a0_1) := (blk_cell BK1.out 1).trans rfl; have hcz17_2 : w16.cell? ⟨gb1, 2, none⟩ = some (.slice A0_2 l0_2.length c0_2) := (blk_cell BK1.out 2).trans rfl; have hcz17_3 : w16.cell? ⟨gb1, 3, none⟩ = some (.slice A0_3 l0_3.length c0_3) := (blk_cell BK1.out 3).trans rfl; have hcz17_4 : w16.cell? ⟨gb1, 4, none⟩ = some (.int .u32 a0_4) := (blk_cell BK1.out 4).trans rfl; have hcz17_5 : w16.cell? ⟨gb1, 5, none⟩ = some (.int .u32 a0_5) := (blk_cell BK1.out 5).trans rfl; have hcz17_6 : w16.cell? ⟨gb1, 6, none⟩ = some (.int .i64 a0_6) := (blk_cell BK1.out 6).trans rfl; have hcz17_7 : w16.cell? ⟨gb1, 7, none⟩ = some (.int .u32 a0_7) := (blk_cell BK1.out 7).trans rfl; have hfz17_0 := blk_frozen BK1.out 0; have hfz17_1 := blk_frozen BK1.out 1; have hfz17_2 := blk_frozen BK1.out 2; have hfz17_3 := blk_frozen BK1.out 3; have hfz17_4 := blk_frozen BK1.out 4; have hfz17_5 := blk_frozen BK1.out 5; have hfz17_6 := blk_frozen BK1.out 6; have hfz17_7 := blk_frozen BK1.out 7) | (go_at_call 58; (with_reducible refine (q23z.calls k1 _ _ l0_3 true _ ?side1 ?side2 A11.out).mono ?_); (case side1 => repeat (first | exact (Kd.C_below HR0_3.out HB.out) | (with_reducible refine Kd.C_alloc ?_ _) | (with_reducible refine Kd.C_drewN ?_ _) | (with_reducible refine Kd.C_drew ?_))); (case side2 => exact HC0_3.out); rintro e w' ⟨rfl, ⟨nd, rfl⟩⟩))
         go_ret
         exact ⟨by first | rfl | (simp [errW_none, errW_some] <;> rfl) | (simp [*, errW_none, errW_some] <;> rfl), by repeat (first | (with_reducible first | exact HB.out | apply below_alloc | apply pw_below_drewN | apply below_drew1 | refine below_set ?_ GE1.out) | exact HB.out)⟩
        ·
         rw [if_neg c14] at H
         have c14b0 : decide (0 ≤ a0_6) = false := decide_eq_false c14
         clear c14
         obtain rfl := Option.some.inj H
         have hcz18_0 : wr.cell? ⟨gb1, 0, none⟩ = some (.int .u32 a0_0) := (blk_cell BK1.out 0).trans rfl
         have hcz18_1 : wr.cell? ⟨gb1, 1, none⟩ = some (.int .i64 a0_1) := (blk_cell BK1.out 1).trans rfl
         have hcz18_2 : wr.cell? ⟨gb1, 2, none⟩ = some (.slice A0_2 l0_2.length c0_2) := (blk_cell BK1.out 2).trans rfl
         have hcz18_3 : wr.cell? ⟨gb1, 3, none⟩ = some (.slice A0_3 l0_3.length c0_3) := (blk_cell BK1.out 3).trans rfl
         have hcz18_4 : wr.cell? ⟨gb1, 4, none⟩ = some (.int .u32 a0_4) := (blk_cell BK1.out 4).trans rfl
         have hcz18_5 : wr.cell? ⟨gb1, 5, none⟩ = some (.int .u32 a0_5) := (blk_cell BK1.out 5).trans rfl
         have hcz18_6 : wr.cell? ⟨gb1, 6, none⟩ = some (.int .i64 a0_6) := (blk_cell BK1.out 6).trans rfl
         have hcz18_7 : wr.cell? ⟨gb1, 7, none⟩ = some (.int .u32 a0_7) := (blk_cell BK1.out 7).trans rfl
         have hfz18_0 := blk_frozen BK1.out 0
         have hfz18_1 := blk_frozen BK1.out 1
         have hfz18_2 := blk_frozen BK1.out 2
         have hfz18_3 := blk_frozen BK1.out 3
         have hfz18_4 := blk_frozen BK1.out 4
         have hfz18_5 := blk_frozen BK1.out 5
         have hfz18_6 := blk_frozen BK1.out 6
         have hfz18_7 := blk_frozen BK1.out 7
         go_wp2_with (first | ((with_reducible refine gate_callee (f := 57) rfl ?_); refine goesL_ (some 17) rfl rfl Try.func57 (by kernel_rfl) rfl #[.agg #[.int .u32 a0_0, .int .i64 a0_1]] rfl (by (try simp only [List.map_toArray, List.map_cons, List.map_nil]); first | done | rfl | (simp only [List.length_drop, List.length_take]; rfl)) ?_; (with_reducible refine (q22z.calls k1 a0_0 a0_1 true _ A8.out).mono ?_); rintro e w19 ⟨rfl, hb⟩; refine ⟨_, rfl, ?_⟩; have n0_ := Aside0.mk (blk_below (g := gb1) (o := .cells #[.int .u32 a0_0, .int .i64 a0_1, .slice A0_2 l0_2.length c0_2, .slice A0_3 l0_3.length c0_3, .int .u32 a0_4, .int .u32 a0_5, .int .i64 a0_6, .int .u32 a0_7] 38 (0, 0)) (by (with_reducible repeat (first | refine blk_drewN ?_ _ | refine blk_drew ?_ | refine blk_alloc ?_ _)); exact BK1.out) hb); have n1_ := Aside0.mk (below_step (by repeat (first | (with_reducible first | exact HB.out | apply below_alloc | apply pw_below_drewN | apply below_drew1 | refine below_set ?_ GE1.out) | exact HB.out)) hb); clear BK1; clear HB; have BK1 := n0_; have HB := n1_; clear n0_ n1_; (try clear hb); (try clear hb2); (try clear hk); (try clear hi); have hcz20_0 : w19.cell? ⟨gb1, 0, none⟩ = some (.int .u32 a0_0) := (blk_cell BK1.out 0).trans rfl; have hcz20_1 : w19.cell? ⟨gb1, 1, none⟩ = some (.int .i64 a0_1) := (blk_cell BK1.out 1).trans rfl; have hcz20_2 : w19.cell? ⟨gb1, 2, none⟩ = some (.slice A0_2 l0_2.length c0_2) := (blk_cell BK1.out 2).trans rfl; have hcz20_3 : w19.cell? ⟨gb1, 3, none⟩ = some (.slice A0_3 l0_3.length c0_3) := (blk_cell BK1.out 3).trans rfl; have hcz20_4 : w19.cell? ⟨gb1, 4, none⟩ = some (.int .u32 a0_4) := (blk_cell BK1.out 4).trans rfl; have hcz20_5 : w19.cell? ⟨gb1, 5, none⟩ = some (.int .u32 a0_5) := (blk_cell BK1.out 5).trans rfl; have hcz20_6 : w19.cell? ⟨gb1, 6, none⟩ = some (.int .i64 a0_6) := (blk_cell BK1.out 6).trans rfl; have hcz20_7 : w19.cell? ⟨gb1, 7, none⟩ = some (.int .u32 a0_7) := (blk_cell BK1.out 7).trans rfl; have hfz20_0 := blk_frozen BK1.out 0; have hfz20_1 := blk_frozen BK1.out 1; have hfz20_2 := blk_frozen BK1.out 2; have hfz20_3 := blk_frozen BK1.out 3; have hfz20_4 := blk_frozen BK1.out 4; have hfz20_5 := blk_frozen BK1.out 5; have hfz20_6 := blk_frozen BK1.out 6; have hfz20_7 := blk_frozen BK1.out 7) | (go_at_call 58; (with_reducible refine (q23z.calls k1 _ _ l0_3 true _ ?side1 ?side2 A11.out).mono ?_); (case side1 => repeat (first | exact (Kd.C_below HR0_3.out HB.out) | (with_reducible refine Kd.C_alloc ?_ _) | (with_reducible refine Kd.C_drewN ?_ _) | (with_reducible refine Kd.C_drew ?_))); (case side2 => exact HC0_3.out); rintro e w' ⟨rfl, ⟨nd, rfl⟩⟩))
         go_ret
         exact ⟨by first | rfl | (simp [errW_none, errW_some] <;> rfl) | (simp [*, errW_none, errW_some] <;> rfl), by repeat (first | (with_reducible first | exact HB.out | apply below_alloc | apply pw_below_drewN | apply below_drew1 | refine below_set ?_ GE1.out) | exact HB.out)⟩
       ·
        rw [if_neg c13] at H
        have c13b0 : decide ((l0_3.length : Int) ≤ 255) = false := decide_eq_false c13
        have c13b1 : decide (l0_3.length ≤ 255) = false := decide_eq_false (by omega)
        clear c13
        obtain rfl := Option.some.inj H
        have hcz21_0 : wr.cell? ⟨gb1, 0, none⟩ = some (.int .u32 a0_0) := (blk_cell BK1.out 0).trans rfl
        have hcz21_1 : wr.cell? ⟨gb1, 1, none⟩ = some (.int .i64 a0_1) := (blk_cell BK1.out 1).trans rfl
        have hcz21_2 : wr.cell? ⟨gb1, 2, none⟩ = some (.slice A0_2 l0_2.length c0_2) := (blk_cell BK1.out 2).trans rfl
        have hcz21_3 : wr.cell? ⟨gb1, 3, none⟩ = some (.slice A0_3 l0_3.length c0_3) := (blk_cell BK1.out 3).trans rfl
        have hcz21_4 : wr.cell? ⟨gb1, 4, none⟩ = some (.int .u32 a0_4) := (blk_cell BK1.out 4).trans rfl
        have hcz21_5 : wr.cell? ⟨gb1, 5, none⟩ = some (.int .u32 a0_5) := (blk_cell BK1.out 5).trans rfl
        have hcz21_6 : wr.cell? ⟨gb1, 6, none⟩ = some (.int .i64 a0_6) := (blk_cell BK1.out 6).trans rfl
        have hcz21_7 : wr.cell? ⟨gb1, 7, none⟩ = some (.int .u32 a0_7) := (blk_cell BK1.out 7).trans rfl
        have hfz21_0 := blk_frozen BK1.out 0
        have hfz21_1 := blk_frozen BK1.out 1
        have hfz21_2 := blk_frozen BK1.out 2
        have hfz21_3 := blk_frozen BK1.out 3
        have hfz21_4 := blk_frozen BK1.out 4
        have hfz21_5 := blk_frozen BK1.out 5
        have hfz21_6 := blk_frozen BK1.out 6
        have hfz21_7 := blk_frozen BK1.out 7
        go_wp2_with (first | ((with_reducible refine gate_callee (f := 57) rfl ?_); refine goesL_ (some 17) rfl rfl Try.func57 (by kernel_rfl) rfl #[.agg #[.int .u32 a0_0, .int .i64 a0_1]] rfl (by (try simp only [List.map_toArray, List.map_cons, List.map_nil]); first | done | rfl | (simp only [List.length_drop, List.length_take]; rfl)) ?_; (with_reducible refine (q22z.calls k1 a0_0 a0_1 true _ A8.out).mono ?_); rintro e w22 ⟨rfl, hb⟩; refine ⟨_, rfl, ?_⟩; have n0_ := Aside0.mk (blk_below (g := gb1) (o := .cells #[.int .u32 a0_0, .int .i64 a0_1, .slice A0_2 l0_2.length c0_2, .slice A0_3 l0_3.length c0_3, .int .u32 a0_4, .int .u32 a0_5, .int .i64 a0_6, .int .u32 a0_7] 38 (0, 0)) (by (with_reducible repeat (first | refine blk_drewN ?_ _ | refine blk_drew ?_ | refine blk_alloc ?_ _)); exact BK1.out) hb); have n1_ := Aside0.mk (below_step (by repeat (first | (with_reducible first | exact HB.out | apply below_alloc | apply pw_below_drewN | apply below_drew1 | refine below_set ?_ GE1.out) | exact HB.out)) hb); clear BK1; clear HB; have BK1 := n0_; have HB := n1_; clear n0_ n1_; (try clear hb); (try clear hb2); (try clear hk); (try clear hi); have hcz23_0 : w22.cell? ⟨gb1, 0, none⟩ = some (.int .u32 a0_0) := (blk_cell BK1.out 0).trans rfl; have hcz23_1 : w22.cell? ⟨gb1, 1, none⟩ = some (.int .i64 a0_1) := (blk_cell BK1.out 1).trans rfl; have hcz23_2 : w22.cell? ⟨gb1, 2, none⟩ = some (.slice A0_2 l0_2.length c0_2) := (blk_cell BK1.out 2).trans rfl; have hcz23_3 : w22.cell? ⟨gb1, 3, none⟩ = some (.slice A0_3 l0_3.length c0_3) := (blk_cell BK1.out 3).trans rfl; have hcz23_4 : w22.cell? ⟨gb1, 4, none⟩ = some (.int .u32 a0_4) := (blk_cell BK1.out 4).trans rfl; have hcz23_5 : w22.cell? ⟨gb1, 5, none⟩ = some (.int .u32 a0_5) := (blk_cell BK1.out 5).trans rfl; have hcz23_6 : w22.cell? ⟨gb1, 6, none⟩ = some (.int .i64 a0_6) := (blk_cell BK1.out 6).trans rfl; have hcz23_7 : w22.cell? ⟨gb1, 7, none⟩ = some (.int .u32 a0_7) := (blk_cell BK1.out 7).trans rfl; have hfz23_0 := blk_frozen BK1.out 0; have hfz23_1 := blk_frozen BK1.out 1; have hfz23_2 := blk_frozen BK1.out 2; have hfz23_3 := blk_frozen BK1.out 3; have hfz23_4 := blk_frozen BK1.out 4; have hfz23_5 := blk_frozen BK1.out 5; have hfz23_6 := blk_frozen BK1.out 6; have hfz23_7 := blk_frozen BK1.out 7) | (go_at_call 58; (with_reducible refine (q23z.calls k1 _ _ l0_3 true _ ?side1 ?side2 A11.out).mono ?_); (case side1 => repeat (first | exact (Kd.C_below HR0_3.out HB.out) | (with_reducible refine Kd.C_alloc ?_ _) | (with_reducible refine Kd.C_drewN ?_ _) | (with_reducible refine Kd.C_drew ?_))); (case side2 => exact HC0_3.out); rintro e w' ⟨rfl, ⟨nd, rfl⟩⟩))
        go_ret
        exact ⟨by first | rfl | (simp [errW_none, errW_some] <;> rfl) | (simp [*, errW_none, errW_some] <;> rfl), by repeat (first | (with_reducible first | exact HB.out | apply below_alloc | apply pw_below_drewN | apply below_drew1 | refine below_set ?_ GE1.out) | exact HB.out)⟩
      ·
       replace c12 := Bool.eq_false_iff.mpr c12
       subst c12
       have H1 : (some false) = some r := by rw [if_neg (show ¬ (false = true) by decide)] at H; exact H
       clear H
       have H := H1
       clear H1
       obtain rfl := Option.some.inj H
       have hcz24_0 : wr.cell? ⟨gb1, 0, none⟩ = some (.int .u32 a0_0) := (blk_cell BK1.out 0).trans rfl
       have hcz24_1 : wr.cell? ⟨gb1, 1, none⟩ = some (.int .i64 a0_1) := (blk_cell BK1.out 1).trans rfl
       have hcz24_2 : wr.cell? ⟨gb1, 2, none⟩ = some (.slice A0_2 l0_2.length c0_2) := (blk_cell BK1.out 2).trans rfl
       have hcz24_3 : wr.cell? ⟨gb1, 3, none⟩ = some (.slice A0_3 l0_3.length c0_3) := (blk_cell BK1.out 3).trans rfl
       have hcz24_4 : wr.cell? ⟨gb1, 4, none⟩ = some (.int .u32 a0_4) := (blk_cell BK1.out 4).trans rfl
       have hcz24_5 : wr.cell? ⟨gb1, 5, none⟩ = some (.int .u32 a0_5) := (blk_cell BK1.out 5).trans rfl
       have hcz24_6 : wr.cell? ⟨gb1, 6, none⟩ = some (.int .i64 a0_6) := (blk_cell BK1.out 6).trans rfl
       have hcz24_7 : wr.cell? ⟨gb1, 7, none⟩ = some (.int .u32 a0_7) := (blk_cell BK1.out 7).trans rfl
       have hfz24_0 := blk_frozen BK1.out 0
       have hfz24_1 := blk_frozen BK1.out 1
       have hfz24_2 := blk_frozen BK1.out 2
       have hfz24_3 := blk_frozen BK1.out 3
       have hfz24_4 := blk_frozen BK1.out 4
       have hfz24_5 := blk_frozen BK1.out 5
       have hfz24_6 := blk_frozen BK1.out 6
       have hfz24_7 := blk_frozen BK1.out 7
       go_wp2_with (first | ((with_reducible refine gate_callee (f := 57) rfl ?_); refine goesL_ (some 17) rfl rfl Try.func57 (by kernel_rfl) rfl #[.agg #[.int .u32 a0_0, .int .i64 a0_1]] rfl (by (try simp only [List.map_toArray, List.map_cons, List.map_nil]); first | done | rfl | (simp only [List.length_drop, List.length_take]; rfl)) ?_; (with_reducible refine (q22z.calls k1 a0_0 a0_1 true _ A8.out).mono ?_); rintro e w25 ⟨rfl, hb⟩; refine ⟨_, rfl, ?_⟩; have n0_ := Aside0.mk (blk_below (g := gb1) (o := .cells #[.int .u32 a0_0, .int .i64 a0_1, .slice A0_2 l0_2.length c0_2, .slice A0_3 l0_3.length c0_3, .int .u32 a0_4, .int .u32 a0_5, .int .i64 a0_6, .int .u32 a0_7] 38 (0, 0)) (by (with_reducible repeat (first | refine blk_drewN ?_ _ | refine blk_drew ?_ | refine blk_alloc ?_ _)); exact BK1.out) hb); have n1_ := Aside0.mk (below_step (by repeat (first | (with_reducible first | exact HB.out | apply below_alloc | apply pw_below_drewN | apply below_drew1 | refine below_set ?_ GE1.out) | exact HB.out)) hb); clear BK1; clear HB; have BK1 := n0_; have HB := n1_; clear n0_ n1_; (try clear hb); (try clear hb2); (try clear hk); (try clear hi); have hcz26_0 : w25.cell? ⟨gb1, 0, none⟩ = some (.int .u32 a0_0) := (blk_cell BK1.out 0).trans rfl; have hcz26_1 : w25.cell? ⟨gb1, 1, none⟩ = some (.int .i64 a0_1) := (blk_cell BK1.out 1).trans rfl; have hcz26_2 : w25.cell? ⟨gb1, 2, none⟩ = some (.slice A0_2 l0_2.length c0_2) := (blk_cell BK1.out 2).trans rfl; have hcz26_3 : w25.cell? ⟨gb1, 3, none⟩ = some (.slice A0_3 l0_3.length c0_3) := (blk_cell BK1.out 3).trans rfl; have hcz26_4 : w25.cell? ⟨gb1, 4, none⟩ = some (.int .u32 a0_4) := (blk_cell BK1.out 4).trans rfl; have hcz26_5 : w25.cell? ⟨gb1, 5, none⟩ = some (.int .u32 a0_5) := (blk_cell BK1.out 5).trans rfl; have hcz26_6 : w25.cell? ⟨gb1, 6, none⟩ = some (.int .i64 a0_6) := (blk_cell BK1.out 6).trans rfl; have hcz26_7 : w25.cell? ⟨gb1, 7, none⟩ = some (.int .u32 a0_7) := (blk_cell BK1.out 7).trans rfl; have hfz26_0 := blk_frozen BK1.out 0; have hfz26_1 := blk_frozen BK1.out 1; have hfz26_2 := blk_frozen BK1.out 2; have hfz26_3 := blk_frozen BK1.out 3; have hfz26_4 := blk_frozen BK1.out 4; have hfz26_5 := blk_frozen BK1.out 5; have hfz26_6 := blk_frozen BK1.out 6; have hfz26_7 := blk_frozen BK1.out 7) | (go_at_call 58; (with_reducible refine (q23z.calls k1 _ _ l0_3 false _ ?side1 ?side2 A11.out).mono ?_); (case side1 => repeat (first | exact (Kd.C_below HR0_3.out HB.out) | (with_reducible refine Kd.C_alloc ?_ _) | (with_reducible refine Kd.C_drewN ?_ _) | (with_reducible refine Kd.C_drew ?_))); (case side2 => exact HC0_3.out); rintro e w' ⟨rfl, ⟨nd, rfl⟩⟩))
       go_ret
       exact ⟨by first | rfl | (simp [errW_none, errW_some] <;> rfl) | (simp [*, errW_none, errW_some] <;> rfl), by repeat (first | (with_reducible first | exact HB.out | apply below_alloc | apply pw_below_drewN | apply below_drew1 | refine below_set ?_ GE1.out) | exact HB.out)⟩
     ·
      rw [if_neg c10] at H
      have c10b0 : decide ((l0_2.length : Int) ≤ 255) = false := decide_eq_false c10
      have c10b1 : decide (l0_2.length ≤ 255) = false := decide_eq_false (by omega)
      clear c10
      obtain rfl := Option.some.inj H
      have hcz27_0 : wr.cell? ⟨gb1, 0, none⟩ = some (.int .u32 a0_0) := (blk_cell BK1.out 0).trans rfl
      have hcz27_1 : wr.cell? ⟨gb1, 1, none⟩ = some (.int .i64 a0_1) := (blk_cell BK1.out 1).trans rfl
      have hcz27_2 : wr.cell? ⟨gb1, 2, none⟩ = some (.slice A0_2 l0_2.length c0_2) := (blk_cell BK1.out 2).trans rfl
      have hcz27_3 : wr.cell? ⟨gb1, 3, none⟩ = some (.slice A0_3 l0_3.length c0_3) := (blk_cell BK1.out 3).trans rfl
      have hcz27_4 : wr.cell? ⟨gb1, 4, none⟩ = some (.int .u32 a0_4) := (blk_cell BK1.out 4).trans rfl
      have hcz27_5 : wr.cell? ⟨gb1, 5, none⟩ = some (.int .u32 a0_5) := (blk_cell BK1.out 5).trans rfl
      have hcz27_6 : wr.cell? ⟨gb1, 6, none⟩ = some (.int .i64 a0_6) := (blk_cell BK1.out 6).trans rfl
      have hcz27_7 : wr.cell? ⟨gb1, 7, none⟩ = some (.int .u32 a0_7) := (blk_cell BK1.out 7).trans rfl
      have hfz27_0 := blk_frozen BK1.out 0
      have hfz27_1 := blk_frozen BK1.out 1
      have hfz27_2 := blk_frozen BK1.out 2
      have hfz27_3 := blk_frozen BK1.out 3
      have hfz27_4 := blk_frozen BK1.out 4
      have hfz27_5 := blk_frozen BK1.out 5
      have hfz27_6 := blk_frozen BK1.out 6
      have hfz27_7 := blk_frozen BK1.out 7
      go_wp2_with (first | ((with_reducible refine gate_callee (f := 57) rfl ?_); refine goesL_ (some 17) rfl rfl Try.func57 (by kernel_rfl) rfl #[.agg #[.int .u32 a0_0, .int .i64 a0_1]] rfl (by (try simp only [List.map_toArray, List.map_cons, List.map_nil]); first | done | rfl | (simp only [List.length_drop, List.length_take]; rfl)) ?_; (with_reducible refine (q22z.calls k1 a0_0 a0_1 true _ A8.out).mono ?_); rintro e w28 ⟨rfl, hb⟩; refine ⟨_, rfl, ?_⟩; have n0_ := Aside0.mk (blk_below (g := gb1) (o := .cells #[.int .u32 a0_0, .int .i64 a0_1, .slice A0_2 l0_2.length c0_2, .slice A0_3 l0_3.length c0_3, .int .u32 a0_4, .int .u32 a0_5, .int .i64 a0_6, .int .u32 a0_7] 38 (0, 0)) (by (with_reducible repeat (first | refine blk_drewN ?_ _ | refine blk_drew ?_ | refine blk_alloc ?_ _)); exact BK1.out) hb); have n1_ := Aside0.mk (below_step (by repeat (first | (with_reducible first | exact HB.out | apply below_alloc | apply pw_below_drewN | apply below_drew1 | refine below_set ?_ GE1.out) | exact HB.out)) hb); clear BK1; clear HB; have BK1 := n0_; have HB := n1_; clear n0_ n1_; (try clear hb); (try clear hb2); (try clear hk); (try clear hi); have hcz29_0 : w28.cell? ⟨gb1, 0, none⟩ = some (.int .u32 a0_0) := (blk_cell BK1.out 0).trans rfl; have hcz29_1 : w28.cell? ⟨gb1, 1, none⟩ = some (.int .i64 a0_1) := (blk_cell BK1.out 1).trans rfl; have hcz29_2 : w28.cell? ⟨gb1, 2, none⟩ = some (.slice A0_2 l0_2.length c0_2) := (blk_cell BK1.out 2).trans rfl; have hcz29_3 : w28.cell? ⟨gb1, 3, none⟩ = some (.slice A0_3 l0_3.length c0_3) := (blk_cell BK1.out 3).trans rfl; have hcz29_4 : w28.cell? ⟨gb1, 4, none⟩ = some (.int .u32 a0_4) := (blk_cell BK1.out 4).trans rfl; have hcz29_5 : w28.cell? ⟨gb1, 5, none⟩ = some (.int .u32 a0_5) := (blk_cell BK1.out 5).trans rfl; have hcz29_6 : w28.cell? ⟨gb1, 6, none⟩ = some (.int .i64 a0_6) := (blk_cell BK1.out 6).trans rfl; have hcz29_7 : w28.cell? ⟨gb1, 7, none⟩ = some (.int .u32 a0_7) := (blk_cell BK1.out 7).trans rfl; have hfz29_0 := blk_frozen BK1.out 0; have hfz29_1 := blk_frozen BK1.out 1; have hfz29_2 := blk_frozen BK1.out 2; have hfz29_3 := blk_frozen BK1.out 3; have hfz29_4 := blk_frozen BK1.out 4; have hfz29_5 := blk_frozen BK1.out 5; have hfz29_6 := blk_frozen BK1.out 6; have hfz29_7 := blk_frozen BK1.out 7))
      go_ret
      exact ⟨by first | rfl | (simp [errW_none, errW_some] <;> rfl) | (simp [*, errW_none, errW_some] <;> rfl), by repeat (first | (with_reducible first | exact HB.out | apply below_alloc | apply pw_below_drewN | apply below_drew1 | refine below_set ?_ GE1.out) | exact HB.out)⟩
    ·
     replace c9 := Bool.eq_false_iff.mpr c9
     subst c9
     have H1 : (some false) = some r := by rw [if_neg (show ¬ (false = true) by decide)] at H; exact H
     clear H
     have H := H1
     clear H1
     obtain rfl := Option.some.inj H
     have hcz30_0 : wr.cell? ⟨gb1, 0, none⟩ = some (.int .u32 a0_0) := (blk_cell BK1.out 0).trans rfl
     have hcz30_1 : wr.cell? ⟨gb1, 1, none⟩ = some (.int .i64 a0_1) := (blk_cell BK1.out 1).trans rfl
     have hcz30_2 : wr.cell? ⟨gb1, 2, none⟩ = some (.slice A0_2 l0_2.length c0_2) := (blk_cell BK1.out 2).trans rfl
     have hcz30_3 : wr.cell? ⟨gb1, 3, none⟩ = some (.slice A0_3 l0_3.length c0_3) := (blk_cell BK1.out 3).trans rfl
     have hcz30_4 : wr.cell? ⟨gb1, 4, none⟩ = some (.int .u32 a0_4) := (blk_cell BK1.out 4).trans rfl
     have hcz30_5 : wr.cell? ⟨gb1, 5, none⟩ = some (.int .u32 a0_5) := (blk_cell BK1.out 5).trans rfl
     have hcz30_6 : wr.cell? ⟨gb1, 6, none⟩ = some (.int .i64 a0_6) := (blk_cell BK1.out 6).trans rfl
     have hcz30_7 : wr.cell? ⟨gb1, 7, none⟩ = some (.int .u32 a0_7) := (blk_cell BK1.out 7).trans rfl
     have hfz30_0 := blk_frozen BK1.out 0
     have hfz30_1 := blk_frozen BK1.out 1
     have hfz30_2 := blk_frozen BK1.out 2
     have hfz30_3 := blk_frozen BK1.out 3
     have hfz30_4 := blk_frozen BK1.out 4
     have hfz30_5 := blk_frozen BK1.out 5
     have hfz30_6 := blk_frozen BK1.out 6
     have hfz30_7 := blk_frozen BK1.out 7
     go_wp2_with (first | ((with_reducible refine gate_callee (f := 57) rfl ?_); refine goesL_ (some 17) rfl rfl Try.func57 (by kernel_rfl) rfl #[.agg #[.int .u32 a0_0, .int .i64 a0_1]] rfl (by (try simp only [List.map_toArray, List.map_cons, List.map_nil]); first | done | rfl | (simp only [List.length_drop, List.length_take]; rfl)) ?_; (with_reducible refine (q22z.calls k1 a0_0 a0_1 false _ A8.out).mono ?_); rintro e w31 ⟨rfl, hb⟩; refine ⟨_, rfl, ?_⟩; have n0_ := Aside0.mk (blk_below (g := gb1) (o := .cells #[.int .u32 a0_0, .int .i64 a0_1, .slice A0_2 l0_2.length c0_2, .slice A0_3 l0_3.length c0_3, .int .u32 a0_4, .int .u32 a0_5, .int .i64 a0_6, .int .u32 a0_7] 38 (0, 0)) (by (with_reducible repeat (first | refine blk_drewN ?_ _ | refine blk_drew ?_ | refine blk_alloc ?_ _)); exact BK1.out) hb); have n1_ := Aside0.mk (below_step (by repeat (first | (with_reducible first | exact HB.out | apply below_alloc | apply pw_below_drewN | apply below_drew1 | refine below_set ?_ GE1.out) | exact HB.out)) hb); clear BK1; clear HB; have BK1 := n0_; have HB := n1_; clear n0_ n1_; (try clear hb); (try clear hb2); (try clear hk); (try clear hi)))
     go_ret
     exact ⟨by first | rfl | (simp [errW_none, errW_some] <;> rfl) | (simp [*, errW_none, errW_some] <;> rfl), by repeat (first | (with_reducible first | exact HB.out | apply below_alloc | apply pw_below_drewN | apply below_drew1 | refine below_set ?_ GE1.out) | exact HB.out)⟩

end Go.Proofs.Ythekledcoeeheaa.P

namespace Go.Proofs.Ythekledcoeeheaa.P
open Go.RowKit Go.Proofs.YthekledcoeeheaaW.PrintWords Go.Proofs.YthekledcoeeheaaW.PrintMore
set_option linter.unusedVariables false
set_option linter.unusedSimpArgs false
/-! A prefix with the bits behind its length 0. -/
def lenM (n : Int) : Int := mx 0 (mn n 32)
theorem lenM_rng (n : Int) : 0 ≤ lenM n ∧ lenM n ≤ 32 := by unfold lenM mx mn; split <;> split <;> (try split) <;> omega
def maskA (a n : Int) : Int := (a / 2 ^ (32 - lenM n).toNat) * 2 ^ (32 - lenM n).toNat
theorem pow_le (e : Nat) (h : e ≤ 32) : (1 : Int) ≤ 2 ^ e ∧ (2 : Int) ^ e ≤ 4294967296 := by
  have h1 : (2 : Nat) ^ e ≤ 2 ^ 32 := Nat.pow_le_pow_right (by omega) h
  have h2 : 0 < (2 : Nat) ^ e := Nat.pow_pos (by omega)
  have e1 : (2 : Int) ^ e = ((2 ^ e : Nat) : Int) := by simp
  rw [e1]
  omega
theorem maskA_rng (a n : Int) (ha : U32 a) : 0 ≤ maskA a n ∧ maskA a n ≤ a := by
  have hp := (pow_le (32 - lenM n).toNat (by have := lenM_rng n; omega)).1
  unfold maskA
  generalize (2 : Int) ^ (32 - lenM n).toNat = q at hp
  have h1 : 0 ≤ a / q := Int.ediv_nonneg ha.1 (by omega)
  exact ⟨Int.mul_nonneg h1 (by omega), Int.ediv_mul_le a (by omega)⟩
theorem u64w (a : Int) (h0 : 0 ≤ a) (h1 : a ≤ 18446744073709551615) : IntKind.u64.wrap a = a := by
  simp [IntKind.wrap, IntKind.bits, IntKind.signed]
  omega
theorem routeMask_f (a n : Int) (ha : U32 a) : q1z.f a n = some (maskA a n, lenM n) := by
  obtain ⟨h0, h1⟩ := maskA_rng a n ha
  obtain ⟨a0, a1⟩ := ha
  unfold q1z.f
  rw [u64w a a0 (by omega)]
  show some (IntKind.u64.wrap (maskA a n) % 4294967296, lenM n) = _
  rw [u64w _ h0 (by omega), Int.emod_eq_of_lt h0 (by omega)]
theorem refMask_l0 (a n : Int) (ha : U32 a) : ∀ (d : Nat) (i : Int), i + d = 32 → lenM n ≤ i → Ev (fun k => q21z.l0 k (lenM n) (2 ^ (i - lenM n).toNat) i a n) (maskA a n, lenM n)
  | 0, i, hi, hn => by
    have hl := lenM_rng n
    have hi' : i = 32 := by omega
    subst hi'
    have hp := pow_le (32 - lenM n).toNat (by omega)
    obtain ⟨h0, h1⟩ := maskA_rng a n ha
    obtain ⟨a0, a1⟩ := ha
    refine Ev.step (f := fun _ => some (maskA a n, lenM n)) (fun k => ?_) (Ev.now _)
    simp only [q21z.l0]
    rw [if_neg (by omega), if_neg (by omega), u64w a a0 (by omega), Int.tdiv_eq_ediv_of_nonneg a0]
    have hq : 0 ≤ a / 2 ^ (32 - lenM n).toNat := Int.ediv_nonneg a0 (by omega)
    have hq2 : a / 2 ^ (32 - lenM n).toNat ≤ a := Int.ediv_le_self _ a0
    rw [u64w _ hq (by omega)]
    show some (IntKind.u64.wrap (maskA a n) % 4294967296, lenM n) = _
    rw [u64w _ h0 (by omega), Int.emod_eq_of_lt h0 (by omega)]
  | d + 1, i, hi, hn => by
    have hl := lenM_rng n
    have ih := refMask_l0 a n ha d (i + 1) (by omega) (by omega)
    have hp := pow_le (i - lenM n).toNat (by omega)
    refine Ev.step (f := fun k => q21z.l0 k (lenM n) (2 ^ (i + 1 - lenM n).toNat) (i + 1) a n) (fun k => ?_) ih
    simp only [q21z.l0]
    rw [if_pos (by omega), u64w _ (by omega) (by omega), wr _ (by omega) (by omega)]
    have e : (i + 1 - lenM n).toNat = (i - lenM n).toNat + 1 := by omega
    rw [e, Int.pow_succ, Int.mul_comm 2]
theorem refMask_ev (a n : Int) (ha : U32 a) : Ev (fun k => q21z.f k a n) (maskA a n, lenM n) := by
  have hl := lenM_rng n
  have := refMask_l0 a n ha (32 - lenM n).toNat (lenM n) (by omega) (Int.le_refl _)
  rw [Int.sub_self] at this
  exact this
/-! Does a list rise? -/
def riseP : Int → List Int → Bool
  | _, [] => true
  | p, x :: s => decide (p < x) && riseP x s
def riseB : List Int → Bool
  | [] => true
  | x :: s => riseP x s
theorem riseB_ne (l : List Int) (h0 : 0 < l.length) : riseB l = riseP (l[0]'h0) (l.drop 1) := by
  cases l with
  | nil => simp at h0
  | cons x s => rfl
def hasZ (l : List Int) : Bool := l.any (fun z => decide (z = 0))
theorem index_l0 (l : List Int) (hl : l.length ≤ 9223372036854775807) : ∀ (d i : Nat), i + d = l.length → ∃ r : Int, Ev (fun k => q2z.l0 k l 0 (l.length : Int) (i : Int)) r ∧ decide (r ≥ 0) = hasZ (l.drop i)
  | 0, i, hi => by
    refine ⟨-1, Ev.step (f := fun _ => some (-1)) (fun k => ?_) (Ev.now _), ?_⟩
    · simp only [q2z.l0]
      rw [if_neg (by omega)]
    · rw [drop_ge l i (by omega)]; rfl
  | d + 1, i, hi => by
    have h : i < l.length := by omega
    rw [List.drop_eq_getElem_cons h]
    by_cases e : l[i] = 0
    · refine ⟨i, Ev.step (f := fun _ => some (i : Int)) (fun k => ?_) (Ev.now _), ?_⟩
      · simp only [q2z.l0]
        rw [if_pos (by omega), if_pos (by omega), if_pos (by omega), rdI l i h, if_pos e.symm]
      · simp [hasZ, e]
    · obtain ⟨r, h1, h2⟩ := index_l0 l hl d (i + 1) (by omega)
      refine ⟨r, Ev.step (f := fun k => q2z.l0 k l 0 (l.length : Int) ((i + 1 : Nat) : Int)) (fun k => ?_) h1, ?_⟩
      · simp only [q2z.l0]
        rw [if_pos (by omega), if_pos (by omega), if_pos (by omega), rdI l i h, if_neg (fun z => e z.symm), wrN i (by omega)]
      · rw [h2]; simp only [hasZ, List.any_cons, e, decide_false, Bool.false_or]
theorem contains_ev (l : List Int) (hl : l.length ≤ 9223372036854775807) : Ev (fun k => q3z.f k l 0) (hasZ l) := by
  obtain ⟨r, ⟨K, h1⟩, h2⟩ := index_l0 l hl l.length 0 (by omega)
  rw [List.drop_zero] at h2
  refine ⟨K, fun k hk => ?_⟩
  have := h1 k hk
  unfold q3z.f q2z.f
  exact (congrArg (fun z => Option.bind z fun t => some (decide (t ≥ 0))) this).trans (congrArg some h2)
/-- What a valid route is. -/
def validB (a : R8) : Bool := riseB a.2.2.2.1 && (decide (a.1 = maskA a.1 a.2.1 ∧ a.2.1 = lenM a.2.1) && (decide (a.2.2.1.length ≤ 255) && (decide (a.2.2.2.1.length ≤ 255) && (!hasZ a.2.2.1 && decide (0 ≤ a.2.2.2.2.2.2.1 ∧ a.2.2.2.2.2.2.1 ≤ 2)))))
theorem validTail (a : R8) (ha : RU a) : Ev (fun k => (q1z.f a.1 a.2.1).bind fun bt4 => (if (!(a.1 == bt4.1) || (!(a.2.1 == bt4.2))) = true then (some false) else (if (a.2.2.1.length : Int) > 255 then (some false) else (if (a.2.2.2.1.length : Int) > 255 then (some false) else ((q3z.f k a.2.2.1 0).bind fun t6 => (if t6 = true then (some false) else (if a.2.2.2.2.2.2.1 ≥ 0 then (some (decide (a.2.2.2.2.2.2.1 ≤ 2))) else (some false)))))))) (decide (a.1 = maskA a.1 a.2.1 ∧ a.2.1 = lenM a.2.1) && (decide (a.2.2.1.length ≤ 255) && (decide (a.2.2.2.1.length ≤ 255) && (!hasZ a.2.2.1 && decide (0 ≤ a.2.2.2.2.2.2.1 ∧ a.2.2.2.2.2.2.1 ≤ 2))))) := by
  obtain ⟨K, e⟩ := contains_ev a.2.2.1 ha.2.2.1.1
  refine ⟨K, fun k hk => ?_⟩
  simp only [routeMask_f _ _ ha.1, Option.bind_some, e k hk]
  by_cases h1 : a.1 = maskA a.1 a.2.1 ∧ a.2.1 = lenM a.2.1
  · have hb : (!(a.1 == maskA a.1 a.2.1) || (!(a.2.1 == lenM a.2.1))) = false := by rw [beq_iff_eq.2 h1.1, beq_iff_eq.2 h1.2]; rfl
    rw [hb, decide_eq_true h1]
    by_cases h2 : a.2.2.1.length ≤ 255
    · by_cases h3 : a.2.2.2.1.length ≤ 255
      · rw [if_neg (by simp), if_neg (by omega), if_neg (by omega), decide_eq_true h2, decide_eq_true h3]
        cases hasZ a.2.2.1
        · by_cases h4 : 0 ≤ a.2.2.2.2.2.2.1
          · rw [if_neg (by simp), if_pos h4]; simp [h4]
          · rw [if_neg (by simp), if_neg h4]; simp [h4]
        · rw [if_pos rfl]; simp
      · rw [if_neg (by simp), if_neg (by omega), if_pos (by omega), decide_eq_false h3]; simp
    · rw [if_neg (by simp), if_pos (by omega), decide_eq_false h2]; simp
  · have hb : (!(a.1 == maskA a.1 a.2.1) || (!(a.2.1 == lenM a.2.1))) = true := by
      by_cases h2 : a.1 = maskA a.1 a.2.1
      · have h3 : ¬ a.2.1 = lenM a.2.1 := fun h3 => h1 ⟨h2, h3⟩
        rw [beq_eq_false_iff_ne.2 h3]; simp
      · rw [beq_eq_false_iff_ne.2 h2]; simp
    rw [hb, if_pos rfl, decide_eq_false h1]
    rfl
theorem valid_l0 (a : R8) (ha : RU a) (T : Bool) (hT : Ev (fun k => (q1z.f a.1 a.2.1).bind fun bt4 => (if (!(a.1 == bt4.1) || (!(a.2.1 == bt4.2))) = true then (some false) else (if (a.2.2.1.length : Int) > 255 then (some false) else (if (a.2.2.2.1.length : Int) > 255 then (some false) else ((q3z.f k a.2.2.1 0).bind fun t6 => (if t6 = true then (some false) else (if a.2.2.2.2.2.2.1 ≥ 0 then (some (decide (a.2.2.2.2.2.2.1 ≤ 2))) else (some false)))))))) T) :
    ∀ (d i : Nat) (hi : i + 1 + d = a.2.2.2.1.length), Ev (fun k => q4z.l0 k ((i + 1 : Nat) : Int) a.1 a.2.1 a.2.2.1 a.2.2.2.1 a.2.2.2.2.1 a.2.2.2.2.2.1 a.2.2.2.2.2.2.1 a.2.2.2.2.2.2.2) (riseP (a.2.2.2.1[i]'(by omega)) (a.2.2.2.1.drop (i + 1)) && T)
  | 0, i, hi => by
    refine Ev.step (fun k => ?_) (by rw [drop_ge _ (i + 1) (by omega)]; simpa only [riseP, Bool.true_and] using hT)
    simp only [q4z.l0]
    rw [if_neg (by omega)]
  | d + 1, i, hi => by
    have hl := ha.2.2.2.1.1
    have h : i + 1 < a.2.2.2.1.length := by omega
    rw [List.drop_eq_getElem_cons h]
    have e0 : wrap64 (((i + 1 : Nat) : Int) - 1) = (i : Int) := by rw [wr _ (by omega) (by omega)]; omega
    by_cases e : a.2.2.2.1[i + 1] ≤ a.2.2.2.1[i]
    · refine Ev.step (f := fun _ => some false) (fun k => ?_) ?_
      · simp only [q4z.l0]
        rw [if_pos (by omega), if_pos (by omega), e0, if_pos (by omega), if_pos (by omega), rdI _ (i + 1) h, rdI _ i (by omega), if_pos e]
      · simp only [riseP]
        rw [decide_eq_false (by omega)]
        exact Ev.now _
    · have ih := valid_l0 a ha T hT d (i + 1) (by omega)
      refine Ev.step (f := fun k => q4z.l0 k ((i + 1 + 1 : Nat) : Int) a.1 a.2.1 a.2.2.1 a.2.2.2.1 a.2.2.2.2.1 a.2.2.2.2.2.1 a.2.2.2.2.2.2.1 a.2.2.2.2.2.2.2) (fun k => ?_) ?_
      · simp only [q4z.l0]
        rw [if_pos (by omega), if_pos (by omega), e0, if_pos (by omega), if_pos (by omega), rdI _ (i + 1) h, rdI _ i (by omega), if_neg e, wrN (i + 1) (by omega)]
      · simp only [riseP]
        rw [decide_eq_true (by omega), Bool.true_and]
        exact ih
theorem valid_ev (a : R8) (ha : RU a) : Ev (fun k => q4z.f k a.1 a.2.1 a.2.2.1 a.2.2.2.1 a.2.2.2.2.1 a.2.2.2.2.2.1 a.2.2.2.2.2.2.1 a.2.2.2.2.2.2.2) (validB a) := by
  have hT := validTail a ha
  unfold validB
  generalize hg : (decide (a.1 = maskA a.1 a.2.1 ∧ a.2.1 = lenM a.2.1) && (decide (a.2.2.1.length ≤ 255) && (decide (a.2.2.2.1.length ≤ 255) && (!hasZ a.2.2.1 && decide (0 ≤ a.2.2.2.2.2.2.1 ∧ a.2.2.2.2.2.2.1 ≤ 2))))) = T at hT
  by_cases h0 : a.2.2.2.1.length = 0
  · have hn : a.2.2.2.1 = [] := List.length_eq_zero_iff.1 h0
    have hr : riseB a.2.2.2.1 = true := by rw [hn]; rfl
    rw [hr, Bool.true_and]
    refine Ev.step (fun k => ?_) hT
    unfold q4z.f
    simp only [q4z.l0]
    rw [if_neg (by omega)]
  · have := valid_l0 a ha T hT (a.2.2.2.1.length - 1) 0 (by omega)
    have hr := riseB_ne a.2.2.2.1 (by omega)
    rw [hr]
    exact this
theorem rises_l0 (l : List Int) (hl : l.length ≤ 9223372036854775807) : ∀ (d i : Nat) (hi : i + 1 + d = l.length), Ev (fun k => q23z.l0 k l (l.length : Int) ((i + 1 : Nat) : Int)) (riseP (l[i]'(by omega)) (l.drop (i + 1)))
  | 0, i, hi => by
    refine Ev.step (f := fun _ => some true) (fun k => ?_) (by rw [drop_ge _ (i + 1) (by omega)]; exact Ev.now _)
    simp only [q23z.l0]
    rw [if_neg (by omega)]
  | d + 1, i, hi => by
    have h : i + 1 < l.length := by omega
    rw [List.drop_eq_getElem_cons h]
    have e0 : wrap64 (((i + 1 : Nat) : Int) - 1) = (i : Int) := by rw [wr _ (by omega) (by omega)]; omega
    by_cases e : l[i + 1] ≤ l[i]
    · refine Ev.step (f := fun _ => some false) (fun k => ?_) ?_
      · simp only [q23z.l0]
        rw [if_pos (by omega), if_pos (by omega), if_pos (by omega), if_pos (by omega), e0, if_pos (by omega), if_pos (by omega), rdI _ (i + 1) h, rdI _ i (by omega), if_pos e]
      · simp only [riseP]
        rw [decide_eq_false (by omega)]
        exact Ev.now _
    · refine Ev.step (f := fun k => q23z.l0 k l (l.length : Int) ((i + 1 + 1 : Nat) : Int)) (fun k => ?_) ?_
      · simp only [q23z.l0]
        rw [if_pos (by omega), if_pos (by omega), if_pos (by omega), if_pos (by omega), e0, if_pos (by omega), if_pos (by omega), rdI _ (i + 1) h, rdI _ i (by omega), if_neg e, wrN (i + 1) (by omega)]
      · simp only [riseP]
        rw [decide_eq_true (by omega), Bool.true_and]
        exact rises_l0 l hl d (i + 1) (by omega)
theorem rises_ev (l : List Int) (hl : l.length ≤ 9223372036854775807) : Ev (fun k => q23z.f k l) (riseB l) := by
  cases hc : l with
  | nil => exact Ev.step (f := fun _ => some true) (fun k => rfl) (Ev.now _)
  | cons x s =>
    rw [← hc]
    have h0 : 0 < l.length := by rw [hc]; simp
    have := rises_l0 l hl (l.length - 1) 0 (by omega)
    refine Ev.step (f := fun k => q23z.l0 k l (l.length : Int) ((0 + 1 : Nat) : Int)) (fun k => ?_) ?_
    · show q23z.l0 (k + 1) l (l.length : Int) 0 = _
      simp only [q23z.l0]
      rw [if_pos (by omega), if_neg (by omega), wr _ (by omega) (by omega)]
      rfl
    · have hr := riseB_ne l h0
      rw [hr]
      exact this
theorem refTail (a : R8) (ha : RU a) : Ev (fun k => (q22z.f k a.1 a.2.1).bind fun t3 => (if t3 = true then (if (a.2.2.1.length : Int) ≤ 255 then ((q23z.f k a.2.2.2.1).bind fun t4 => (if t4 = true then (if (a.2.2.2.1.length : Int) ≤ 255 then (if a.2.2.2.2.2.2.1 ≥ 0 then (some (decide (a.2.2.2.2.2.2.1 ≤ 2))) else (some false)) else (some false)) else (some false))) else (some false)) else (some false)))
    (decide (a.1 = maskA a.1 a.2.1 ∧ a.2.1 = lenM a.2.1) && (decide (a.2.2.1.length ≤ 255) && (riseB a.2.2.2.1 && (decide (a.2.2.2.1.length ≤ 255) && decide (0 ≤ a.2.2.2.2.2.2.1 ∧ a.2.2.2.2.2.2.1 ≤ 2))))) := by
  obtain ⟨K1, e1⟩ := refMask_ev a.1 a.2.1 ha.1
  obtain ⟨K2, e2⟩ := rises_ev a.2.2.2.1 ha.2.2.2.1.1
  refine ⟨K1 + K2, fun k hk => ?_⟩
  simp only [q22z.f, e1 k (by omega), e2 k (by omega), Option.bind_some]
  by_cases h1 : a.1 = maskA a.1 a.2.1 ∧ a.2.1 = lenM a.2.1
  · have hb : (a.1 == maskA a.1 a.2.1 && (a.2.1 == lenM a.2.1)) = true := by rw [beq_iff_eq.2 h1.1, beq_iff_eq.2 h1.2]; rfl
    rw [hb, if_pos rfl, decide_eq_true h1]
    by_cases h2 : a.2.2.1.length ≤ 255
    · rw [if_pos (by omega), decide_eq_true h2]
      cases riseB a.2.2.2.1
      · rw [if_neg (by simp)]; rfl
      · rw [if_pos rfl]
        by_cases h3 : a.2.2.2.1.length ≤ 255
        · rw [if_pos (by omega), decide_eq_true h3]
          by_cases h4 : 0 ≤ a.2.2.2.2.2.2.1
          · rw [if_pos h4]; simp [h4]
          · rw [if_neg h4]; simp [h4]
        · rw [if_neg (by omega), decide_eq_false h3]; rfl
    · rw [if_neg (by omega), decide_eq_false h2]; rfl
  · have hb : (a.1 == maskA a.1 a.2.1 && (a.2.1 == lenM a.2.1)) = false := by
      by_cases h2 : a.1 = maskA a.1 a.2.1
      · have h3 : ¬ a.2.1 = lenM a.2.1 := fun h3 => h1 ⟨h2, h3⟩
        rw [beq_eq_false_iff_ne.2 h3]; simp
      · rw [beq_eq_false_iff_ne.2 h2]; simp
    rw [hb, if_neg (by simp), decide_eq_false h1]
    rfl
theorem refValid_l0 (a : R8) (ha : RU a) (T : Bool) (hT : Ev (fun k => (q22z.f k a.1 a.2.1).bind fun t3 => (if t3 = true then (if (a.2.2.1.length : Int) ≤ 255 then ((q23z.f k a.2.2.2.1).bind fun t4 => (if t4 = true then (if (a.2.2.2.1.length : Int) ≤ 255 then (if a.2.2.2.2.2.2.1 ≥ 0 then (some (decide (a.2.2.2.2.2.2.1 ≤ 2))) else (some false)) else (some false)) else (some false))) else (some false)) else (some false))) T) :
    ∀ (d i : Nat) (hi : i + d = a.2.2.1.length), Ev (fun k => q24z.l0 k a.2.2.1 (a.2.2.1.length : Int) (i : Int) a.1 a.2.1 a.2.2.1 a.2.2.2.1 a.2.2.2.2.1 a.2.2.2.2.2.1 a.2.2.2.2.2.2.1 a.2.2.2.2.2.2.2) (!hasZ (a.2.2.1.drop i) && T)
  | 0, i, hi => by
    refine Ev.step (fun k => ?_) (by rw [drop_ge _ i (by omega)]; simpa only [hasZ, List.any_nil, Bool.not_false, Bool.true_and] using hT)
    simp only [q24z.l0]
    rw [if_neg (by omega)]
  | d + 1, i, hi => by
    have hl := ha.2.2.1.1
    have h : i < a.2.2.1.length := by omega
    rw [List.drop_eq_getElem_cons h]
    by_cases e : a.2.2.1[i] = 0
    · refine Ev.step (f := fun _ => some false) (fun k => ?_) ?_
      · simp only [q24z.l0]
        rw [if_pos (by omega), if_pos (by omega), if_pos (by omega), rdI _ i h, if_pos e]
      · simp only [hasZ, List.any_cons, e, decide_true, Bool.true_or, Bool.not_true, Bool.false_and]
        exact Ev.now _
    · have ih := refValid_l0 a ha T hT d (i + 1) (by omega)
      refine Ev.step (f := fun k => q24z.l0 k a.2.2.1 (a.2.2.1.length : Int) ((i + 1 : Nat) : Int) a.1 a.2.1 a.2.2.1 a.2.2.2.1 a.2.2.2.2.1 a.2.2.2.2.2.1 a.2.2.2.2.2.2.1 a.2.2.2.2.2.2.2) (fun k => ?_) ?_
      · simp only [q24z.l0]
        rw [if_pos (by omega), if_pos (by omega), if_pos (by omega), rdI _ i h, if_neg e, wrN i (by omega)]
      · simp only [hasZ, List.any_cons, e, decide_false, Bool.false_or]
        exact ih
theorem refValid_ev (a : R8) (ha : RU a) : Ev (fun k => q24z.f k a.1 a.2.1 a.2.2.1 a.2.2.2.1 a.2.2.2.2.1 a.2.2.2.2.2.1 a.2.2.2.2.2.2.1 a.2.2.2.2.2.2.2) (validB a) := by
  have h := refValid_l0 a ha _ (refTail a ha) a.2.2.1.length 0 (by omega)
  have e : validB a = (!hasZ (a.2.2.1.drop 0) && (decide (a.1 = maskA a.1 a.2.1 ∧ a.2.1 = lenM a.2.1) && (decide (a.2.2.1.length ≤ 255) && (riseB a.2.2.2.1 && (decide (a.2.2.2.1.length ≤ 255) && decide (0 ≤ a.2.2.2.2.2.2.1 ∧ a.2.2.2.2.2.2.1 ≤ 2)))))) := by
    rw [List.drop_zero]
    unfold validB
    cases hasZ a.2.2.1 <;> cases riseB a.2.2.2.1 <;> simp
  rw [e]
  exact h
end Go.Proofs.Ythekledcoeeheaa.P

namespace Go.Proofs.Ythekledcoeeheaa.P
open Go.Sort
set_option linter.unusedVariables false
/-! A sorted list with what is alike left out. -/
def cmpU (l : List Int) : List Int := Go.Lib.compactUpTo l.toArray l.length
theorem getB (l : List Int) (i : Nat) (h : i < l.length) : l.toArray[i]! = l[i] := by
  rw [getElem!_pos l.toArray i (by simpa using h)]
  simp
theorem cmpU_lt (l : List Int) (h : l.Pairwise (fun a b : Int => a ≤ b)) : (cmpU l).Pairwise (fun a b : Int => a < b) := by
  unfold cmpU Go.Lib.compactUpTo
  rw [List.pairwise_map, List.pairwise_filter, List.pairwise_iff_getElem]
  intro i j hi hj hij
  simp only [List.getElem_range]
  intro ki kj
  rw [List.length_range] at hi hj
  rw [List.pairwise_iff_getElem] at h
  simp only [Go.Lib.keeps, decide_eq_true_eq] at kj
  rcases kj with kj | kj
  · omega
  · have e : j - 1 + 1 = j := by omega
    rw [getB l i hi, getB l j hj]
    rw [getB l j hj, getB l (j - 1) (by omega)] at kj
    have h1 := h (j - 1) j (by omega) hj (by omega)
    rcases Nat.lt_or_ge i (j - 1) with h2 | h2
    · have h3 := h i (j - 1) hi (by omega) h2
      omega
    · have e2 : i = j - 1 := by omega
      subst e2
      omega
theorem cmpU_sub (l : List Int) (x : Int) (hx : x ∈ cmpU l) : x ∈ l := by
  unfold cmpU Go.Lib.compactUpTo at hx
  rw [List.mem_map] at hx
  obtain ⟨i, hi, rfl⟩ := hx
  have hi' := List.mem_range.1 (List.mem_filter.1 hi).1
  rw [getB l i hi']
  exact List.getElem_mem hi'
theorem cmpU_sup (l : List Int) : ∀ i (h : i < l.length), l[i] ∈ cmpU l := by
  intro i
  induction i with
  | zero =>
    intro h
    unfold cmpU Go.Lib.compactUpTo
    rw [List.mem_map]
    exact ⟨0, List.mem_filter.2 ⟨List.mem_range.2 h, by simp [Go.Lib.keeps]⟩, getB l 0 h⟩
  | succ i ih =>
    intro h
    by_cases e : l[i + 1] = l[i]
    · rw [e]; exact ih (by omega)
    · unfold cmpU Go.Lib.compactUpTo
      rw [List.mem_map]
      refine ⟨i + 1, List.mem_filter.2 ⟨List.mem_range.2 h, ?_⟩, getB l (i + 1) h⟩
      simp only [Go.Lib.keeps, decide_eq_true_eq]
      refine .inr ?_
      rw [getB l (i + 1) h, Nat.add_sub_cancel, getB l i (by omega)]
      exact e
theorem cmpU_mem (l : List Int) (x : Int) : x ∈ cmpU l ↔ x ∈ l := by
  constructor
  · exact cmpU_sub l x
  · intro h
    obtain ⟨i, hi, rfl⟩ := List.getElem_of_mem h
    exact cmpU_sup l i hi
theorem cmpU_le (l : List Int) : (cmpU l).length ≤ l.length := by
  unfold cmpU Go.Lib.compactUpTo
  rw [List.length_map]
  exact Nat.le_trans (List.length_filter_le _ _) (by simp)
theorem lt_unique : ∀ (l r : List Int), l.Pairwise (fun a b : Int => a < b) → r.Pairwise (fun a b : Int => a < b) → (∀ x, x ∈ l ↔ x ∈ r) → l = r
  | [], [], _, _, _ => rfl
  | [], y :: t, _, _, h => by have := (h y).2 (List.mem_cons_self ..); simp at this
  | x :: s, [], _, _, h => by have := (h x).1 (List.mem_cons_self ..); simp at this
  | x :: s, y :: t, h1, h2, h => by
    rw [List.pairwise_cons] at h1 h2
    have hxy : x = y := by
      rcases List.mem_cons.1 ((h x).1 (List.mem_cons_self ..)) with e | e
      · exact e
      · rcases List.mem_cons.1 ((h y).2 (List.mem_cons_self ..)) with e2 | e2
        · exact e2.symm
        · have a1 := h2.1 x e
          have a2 := h1.1 y e2
          omega
    subst hxy
    rw [lt_unique s t h1.2 h2.2]
    intro z
    constructor
    · intro hz
      rcases List.mem_cons.1 ((h z).1 (List.mem_cons_of_mem _ hz)) with e | e
      · have := h1.1 z hz; omega
      · exact e
    · intro hz
      rcases List.mem_cons.1 ((h z).2 (List.mem_cons_of_mem _ hz)) with e | e
      · have := h2.1 z hz; omega
      · exact e
/-- A list's numbers, each once, rising. -/
def setU (l : List Int) : List Int := cmpU (sortU l)
theorem setU_lt (l : List Int) : (setU l).Pairwise (fun a b : Int => a < b) := cmpU_lt _ (sortU_pair l)
theorem setU_mem (l : List Int) (x : Int) : x ∈ setU l ↔ x ∈ l := (cmpU_mem _ x).trans (sortU_mem l x)
theorem setU_le (l : List Int) : (setU l).length ≤ l.length := Nat.le_trans (cmpU_le _) (Nat.le_of_eq (sortU_len l))
theorem setU_self (l : List Int) (h : l.Pairwise (fun a b : Int => a < b)) : setU l = l := lt_unique _ _ (setU_lt l) h (setU_mem l)
theorem setU_idem (l : List Int) : setU (setU l) = setU l := setU_self _ (setU_lt l)
end Go.Proofs.Ythekledcoeeheaa.P

namespace Go.Proofs.Ythekledcoeeheaa.P
open Go.RowKit Go.Proofs.YthekledcoeeheaaW.PrintWords Go.Proofs.YthekledcoeeheaaW.PrintMore
set_option linter.unusedVariables false
set_option linter.unusedSimpArgs false
/-! A route in its one form. -/
theorem lenM_idem (n : Int) : lenM (lenM n) = lenM n := by
  have h := lenM_rng n
  generalize lenM n = m at h
  unfold lenM mx mn
  split <;> split <;> (try split) <;> omega
theorem maskA_idem (a n : Int) : maskA (maskA a n) (lenM n) = maskA a n := by
  have hp := (pow_le (32 - lenM n).toNat (by have := lenM_rng n; omega)).1
  unfold maskA
  rw [lenM_idem]
  generalize (2 : Int) ^ (32 - lenM n).toNat = q at hp
  rw [Int.mul_ediv_cancel _ (by omega)]
def canonR (a : R8) : R8 := (maskA a.1 a.2.1, lenM a.2.1, a.2.2.1, setU a.2.2.2.1, a.2.2.2.2.1, a.2.2.2.2.2.1, a.2.2.2.2.2.2.1, a.2.2.2.2.2.2.2)
theorem canonR_idem (a : R8) : canonR (canonR a) = canonR a := by
  simp only [canonR, lenM_idem, maskA_idem, setU_idem]
theorem RU.canon {a : R8} (h : RU a) : RU (canonR a) := by
  obtain ⟨h0, h1, h2, h3, h4, h5, h6, h7⟩ := h
  have hm := maskA_rng a.1 a.2.1 h0
  have hl := lenM_rng a.2.1
  refine ⟨⟨hm.1, Int.le_trans hm.2 h0.2⟩, ⟨?_, ?_⟩, h2, ⟨Nat.le_trans (setU_le _) h3.1, fun z hz => h3.2 z ((setU_mem _ z).1 hz)⟩, h4, h5, h6, h7⟩
  · show -9223372036854775808 ≤ lenM a.2.1
    omega
  · show lenM a.2.1 ≤ 9223372036854775807
    omega
theorem riseP_of (p : Int) (l : List Int) (h : (p :: l).Pairwise (fun a b : Int => a < b)) : riseP p l = true := by
  induction l generalizing p with
  | nil => rfl
  | cons x s ih =>
    rw [List.pairwise_cons] at h
    simp only [riseP, Bool.and_eq_true, decide_eq_true_eq]
    exact ⟨h.1 x (List.mem_cons_self ..), ih x h.2⟩
theorem riseB_of (l : List Int) (h : l.Pairwise (fun a b : Int => a < b)) : riseB l = true := by
  cases l with
  | nil => rfl
  | cons x s => exact riseP_of x s h
theorem pair_of_riseP (p : Int) (l : List Int) (h : riseP p l = true) : (p :: l).Pairwise (fun a b : Int => a < b) := by
  induction l generalizing p with
  | nil => simp
  | cons x s ih =>
    simp only [riseP, Bool.and_eq_true, decide_eq_true_eq] at h
    have h2 := ih x h.2
    rw [List.pairwise_cons]
    refine ⟨fun z hz => ?_, h2⟩
    rcases List.mem_cons.1 hz with rfl | hz
    · exact h.1
    · exact Int.lt_trans h.1 ((List.pairwise_cons.1 h2).1 z hz)
theorem pair_of_riseB (l : List Int) (h : riseB l = true) : l.Pairwise (fun a b : Int => a < b) := by
  cases l with
  | nil => simp
  | cons x s => exact pair_of_riseP x s h
theorem canon_f (k : Nat) (a : R8) (ha : RU a) (h1 : a.2.2.1.length ≤ 1000) (h2 : a.2.2.2.1.length ≤ 1000) : q6z.f k a.1 a.2.1 a.2.2.1 a.2.2.2.1 a.2.2.2.2.1 a.2.2.2.2.2.1 a.2.2.2.2.2.2.1 a.2.2.2.2.2.2.2 = some (canonR a) := by
  have e1 : q5z.f a.1 a.2.1 a.2.2.1 a.2.2.2.1 a.2.2.2.2.1 a.2.2.2.2.2.1 a.2.2.2.2.2.2.1 a.2.2.2.2.2.2.2 = some a := by
    unfold q5z.f
    rw [Option.bind_some, if_pos (by simp; omega), Option.bind_some, if_pos (by simp; omega)]
    simp
  have e2 : Sort_u32.f k a.2.2.2.1 = some (sortU a.2.2.2.1) := if_pos (by omega)
  have e3 : Compact_u32.f (sortU a.2.2.2.1) = some (setU a.2.2.2.1) := if_pos (by rw [sortU_len]; omega)
  unfold q6z.f
  rw [e1, Option.bind_some, routeMask_f _ _ ha.1, Option.bind_some, e2, Option.bind_some, e3, Option.bind_some]
  rfl
theorem great_f (a : R8) : q16z.f a.1 a.2.1 a.2.2.1 a.2.2.2.1 a.2.2.2.2.1 a.2.2.2.2.2.1 a.2.2.2.2.2.2.1 a.2.2.2.2.2.2.2 = some (decide (1000 < a.2.2.1.length ∨ 1000 < a.2.2.2.1.length)) := by
  unfold q16z.f
  by_cases h : 1000 < a.2.2.1.length
  · rw [if_pos (by omega), decide_eq_true (.inl h)]
  · rw [if_neg (by omega)]
    congr 1
    rw [decide_eq_decide]
    omega
end Go.Proofs.Ythekledcoeeheaa.P

namespace Go.Proofs.Ythekledcoeeheaa.P
open Go.RowKit Go.Proofs.YthekledcoeeheaaW.PrintWords Go.Proofs.YthekledcoeeheaaW.PrintMore
theorem alive_ev : Ev (fun k => q15z.f k) true := by
  refine ⟨60, fun k hk => ?_⟩
  obtain ⟨m, rfl⟩ : ∃ m, k = m + 60 := ⟨k - 60, by omega⟩
  kernel_rfl
end Go.Proofs.Ythekledcoeeheaa.P

namespace Go.Proofs.Ythekledcoeeheaa.P
open Go.RowKit Go.Proofs.YthekledcoeeheaaW.PrintWords Go.Proofs.YthekledcoeeheaaW.PrintMore
set_option linter.unusedVariables false
theorem validB_c (x n : Int) (l : List Int) (p q h : Int) (r1 : riseB l = true) (r2 : x = maskA x n ∧ n = lenM n) : validB (x, n, ([] : List Int), l, p, q, 1, h) = decide (l.length ≤ 255) := by
  simp only [validB, r1, decide_eq_true r2, hasZ, Bool.true_and, List.any_nil]
  simp
theorem pure_RouteOne (a0_0_0 : Int) (a0_0_1 : Int) (l0_1 : List Int) (l0_2 : List Int) (a0_3 : Int) (a0_4 : Int) (a0_5 : Int) (a0_6 : Int) (h0 : (Lit.int .u32 a0_0_0).wf = true) (h1 : (Lit.int .i64 a0_0_1).wf = true) (h2 : (l0_1.length ≤ 9223372036854775807 ∧ ∀ z_ ∈ l0_1, (Lit.int .u32 z_).wf = true)) (h3 : (l0_2.length ≤ 9223372036854775807 ∧ ∀ z_ ∈ l0_2, (Lit.int .u32 z_).wf = true)) (h4 : (Lit.int .u32 a0_3).wf = true) (h5 : (Lit.int .u32 a0_4).wf = true) (h6 : (Lit.int .i64 a0_5).wf = true) (h7 : (Lit.int .u32 a0_6).wf = true) : ∃ k, q17z.f k a0_0_0 a0_0_1 l0_1 l0_2 a0_3 a0_4 a0_5 a0_6 = some true := by
  have ra : RU (a0_0_0, a0_0_1, l0_1, l0_2, a0_3, a0_4, a0_5, a0_6) := ⟨u32_of h0, i64_of h1, lu_of h2, lu_of h3, u32_of h4, u32_of h5, i64_of h6, u32_of h7⟩
  generalize hA : ((a0_0_0, a0_0_1, l0_1, l0_2, a0_3, a0_4, a0_5, a0_6) : R8) = A at ra
  have g1 : a0_0_0 = A.1 := by rw [← hA]
  have g2 : a0_0_1 = A.2.1 := by rw [← hA]
  have g3 : l0_1 = A.2.2.1 := by rw [← hA]
  have g4 : l0_2 = A.2.2.2.1 := by rw [← hA]
  have g5 : a0_3 = A.2.2.2.2.1 := by rw [← hA]
  have g6 : a0_4 = A.2.2.2.2.2.1 := by rw [← hA]
  have g7 : a0_5 = A.2.2.2.2.2.2.1 := by rw [← hA]
  have g8 : a0_6 = A.2.2.2.2.2.2.2 := by rw [← hA]
  rw [g1, g2, g3, g4, g5, g6, g7, g8]
  clear g1 g2 g3 g4 g5 g6 g7 g8 hA h0 h1 h2 h3 h4 h5 h6 h7
  obtain ⟨K0, e0⟩ := alive_ev
  replace e0 : ∀ k, K0 ≤ k → q15z.f k = some true := e0
  by_cases hg : 1000 < A.2.2.1.length ∨ 1000 < A.2.2.2.1.length
  · refine ⟨K0, ?_⟩
    unfold q17z.f
    rw [e0 K0 (Nat.le_refl _), Option.bind_some, if_pos rfl, great_f, Option.bind_some, decide_eq_true hg, if_pos rfl]
  · have hl1 : A.2.2.1.length ≤ 1000 := by omega
    have hl2 : A.2.2.2.1.length ≤ 1000 := by omega
    have rc := ra.canon
    have hc2 : (canonR A).2.2.2.1.length ≤ 1000 := Nat.le_trans (setU_le _) hl2
    obtain ⟨K1, e1⟩ := routeCmp_ev (canonR (canonR A)) (canonR A) ra.2.2.1.1 rc.canon.2.2.2.1.1
    obtain ⟨K2, e2⟩ := valid_ev A ra
    obtain ⟨K3, e3⟩ := routeCmp_ev (canonR A) A ra.2.2.1.1 rc.2.2.2.1.1
    have rd3 : RU ((canonR A).1, (canonR A).2.1, ([] : List Int), (canonR A).2.2.2.1, (canonR A).2.2.2.2.1, (canonR A).2.2.2.2.2.1, 1, (canonR A).2.2.2.2.2.2.2) :=
      ⟨rc.1, rc.2.1, ⟨by simp, by simp⟩, rc.2.2.2.1, rc.2.2.2.2.1, rc.2.2.2.2.2.1, (show I64 1 from ⟨by decide, by decide⟩), rc.2.2.2.2.2.2.2⟩
    obtain ⟨K4, e4⟩ := valid_ev _ rd3
    have v4 : validB ((canonR A).1, (canonR A).2.1, ([] : List Int), (canonR A).2.2.2.1, (canonR A).2.2.2.2.1, (canonR A).2.2.2.2.2.1, 1, (canonR A).2.2.2.2.2.2.2) = decide ((canonR A).2.2.2.1.length ≤ 255) :=
      validB_c _ _ _ _ _ _ (riseB_of _ (setU_lt _)) ⟨(maskA_idem _ _).symm, (lenM_idem _).symm⟩
    rw [canonR_idem] at e1
    have c1 : cmpR (canonR A) (canonR A) = 0 := cmpR_ord.self _
    rw [c1] at e1
    rw [v4] at e4
    refine ⟨K0 + K1 + K2 + K3 + K4, ?_⟩
    have d0 := e0 (K0 + K1 + K2 + K3 + K4) (by omega)
    have d1 := e1 (K0 + K1 + K2 + K3 + K4) (by omega)
    have d2 := e2 (K0 + K1 + K2 + K3 + K4) (by omega)
    have d3 := e3 (K0 + K1 + K2 + K3 + K4) (by omega)
    have d4 := e4 (K0 + K1 + K2 + K3 + K4) (by omega)
    generalize K0 + K1 + K2 + K3 + K4 = k at d0 d1 d2 d3 d4 ⊢
    simp only [] at d1 d2 d3 d4
    have f1 := canon_f k A ra hl1 hl2
    have f2 := canon_f k (canonR A) rc hl1 hc2
    rw [canonR_idem] at f2
    have lst : (decide ((canonR A).2.2.2.1.length ≤ 255) == decide (((canonR A).2.2.2.1.length : Int) ≤ 255)) = true := by
      rw [beq_iff_eq, decide_eq_decide]; omega
    unfold q17z.f
    rw [d0, Option.bind_some, if_pos rfl, great_f, Option.bind_some, decide_eq_false hg, if_neg (by simp), f1, Option.bind_some, f2, Option.bind_some, d1, Option.bind_some, if_pos rfl, d2, Option.bind_some]
    cases hv : validB A with
    | false =>
      rw [if_neg (by simp)]
      rw [d4, Option.bind_some, lst]
    | true =>
      have he : canonR A = A := by
        simp only [validB, Bool.and_eq_true, decide_eq_true_eq] at hv
        obtain ⟨v1, ⟨v2, v3⟩, _⟩ := hv
        unfold canonR
        rw [← v2, ← v3, setU_self _ (pair_of_riseB _ v1)]
      have c3 : cmpR (canonR A) A = 0 := by rw [he]; exact cmpR_ord.self _
      rw [c3] at d3
      rw [if_pos rfl, d3, Option.bind_some, if_pos rfl, d4, Option.bind_some, lst]
end Go.Proofs.Ythekledcoeeheaa.P

namespace Go.Proofs.Ythekledcoeeheaa.routeOne
open Go.ChangeShapes Go.WideShapes Go.ChangeAt Go.RowKit
open Go.ChangeMaps (open_string shut_string)
open Go.Proofs.YthekledcoeeheaaW.PrintWords Go.Proofs.YthekledcoeeheaaW.PrintLast Go.Proofs.YthekledcoeeheaaW.PrintMore Go.Proofs.Ythekledcoeeheaa.P
set_option linter.unusedVariables false
set_option linter.unusedSimpArgs false
theorem own : ownKnob Try.prog.godebug = none := by kernel_rfl
theorem laidOut : laidOutB Try.prog = true := by kernel_rfl
set_option maxRecDepth 100000 in
theorem lifted (os : Os) (started : os.Started) (H : Type) (enc : TypeId × Value → H) :
    ReturnsInHanded {} Try.checked os 10 .any (Rows.routeOneSpec.pre6 enc Try.prog Try.f10 Rows.routeOneRow.domain false) (Rows.routeOneSpec.post enc Try.prog Try.f10 false true false false) := by
  refine returnsInHanded_of_change_sized (C := Try.checked) own started (by kernel_rfl) Try.func10
    (ChangeSpec.witness6 (enc := enc) (C := Try.checked) false ⟨#[], #[.agg #[.int .u32 0, .int .i64 0, .slice none 0 0, .slice none 0 0, .int .u32 0, .int .u32 0, .int .i64 0, .int .u32 0]], []⟩ 8 (by kernel_rfl) (by kernel_rfl) (by kernel_rfl) (by kernel_rfl)) ?_
  intro W base args ds gs before hval0 hW hcnd hsz0 _
  have hval : ∀ (j : Nat) t v, Try.f10.params[j]? = some t → args[j]? = some v → Value.okWide Try.prog W .any base t v := hval0
  have hW' := hW
  obtain ⟨p, q, hA0, hV, rfl, hfz, hnd⟩ := hW
  have hA : DataW.TrodAll enc Try.prog W 0 (fun _ => true) true Try.f10.params.toList args.toList ds p := hA0
  rw [Try.params10] at hA hval
  obtain ⟨v0, vs0, d0, ds0, p0, q0, hargs, rfl, rfl, h0, r0⟩ := trodAll_cons hA
  obtain ⟨rfl, rfl, rfl⟩ := trodAll_nil r0
  obtain rfl : args = #[v0] := by cases args; simp_all
  obtain ⟨rfl, rfl⟩ := trodVars_none hV
  obtain ⟨cs0, rfl, hz0⟩ := okWide_struct Try.underlying38 (hval 0 38 v0 rfl rfl)
  have k0 := h0
  have lt0 : ∀ x ∈ p0, x.block < W.heap.size := by obtain ⟨m, hm⟩ := k0; exact DataW.trod_lt m _ _ _ hm
  obtain ⟨⟨⟨l0_0_0, l0_0_1⟩, l0_1, l0_2, l0_3, l0_4, l0_5, l0_6⟩, hK0, hg0⟩ : ∃ x_ : S38, k38.K W x_ cs0.toList ∧ good38 x_ := by obtain ⟨fuel, hf⟩ := h0; exact opens_T38 _ _ _ (by simpa [Value.cells] using hf)
  obtain ⟨A0_1_, c0_1_, A0_2_, c0_2_, hcs0, hle0_1, hC0_1, hle0_2, hC0_2⟩ := k38_open hK0
  obtain rfl : cs0 = #[.int .u32 l0_0_0, .int .i64 l0_0_1, .slice A0_1_ l0_1.length c0_1_, .slice A0_2_ l0_2.length c0_2_, .int .u32 l0_3, .int .u32 l0_4, .int .i64 l0_5, .int .u32 l0_6] := Array.ext' hcs0
  obtain ⟨⟨g0_0_0, g0_0_1⟩, g0_1, g0_2, g0_3, g0_4, g0_5, g0_6⟩ := hg0
  clear hA0 hval0 hsz0
  obtain ⟨k_, hk_⟩ := pure_RouteOne l0_0_0 l0_0_1 l0_1 l0_2 l0_3 l0_4 l0_5 l0_6 g0_0_0 g0_0_1 g0_1 g0_2 g0_3 g0_4 g0_5 g0_6
  refine (q17z.calls k_ l0_0_0 l0_0_1 A0_1_ c0_1_ l0_1 A0_2_ c0_2_ l0_2 l0_3 l0_4 l0_5 l0_6 true W hC0_1 hle0_1 hC0_2 hle0_2 hk_).mono fun e W' ⟨he, bel⟩ => ?_
  subst he
  exact ⟨_, rfl, _, _, _, [], _, [], hW', trodAll_mk1 (shut_bool Try.underlying4 _), (trodAll_cons_mk (Below.trod laidOut (by kernel_rfl) (of_decide_eq_true (by kernel_rfl)) k0 bel lt0) trodAll_mk0), rfl, bel.frame _, fun h => by cases h⟩
theorem over : Rows.routeOneRow.holds Try.pinned (OpenSpec.ofChange Rows.routeOneSpec) :=
  OpenClaim.holds_of_wide 10 Try.f10 rfl rfl rfl rfl rfl rfl rfl ⟨rfl, rfl, rfl, rfl, rfl⟩ rfl rfl rfl rfl rfl (by kernel_rfl) Try.func10 (by kernel_rfl)
    (of_decide_eq_true (by kernel_rfl)) (by unfold Func.isWrapper; first | (rw [if_pos (by decide +kernel)]; kernel_rfl) | (rw [if_neg (by decide +kernel)]; exact ⟨rfl, rfl⟩))
    (fun os started H enc _ => lifted os started H enc)
theorem proved : Rows.RouteOneSaid := over
end Go.Proofs.Ythekledcoeeheaa.routeOne
namespace Go.Proofs.Ythekledcoeeheaa
/-- The row, under a short name, for the claim. -/
theorem routeOne_holds : Rows.RouteOneSaid := routeOne.proved
#print axioms routeOne_holds
end Go.Proofs.Ythekledcoeeheaa
