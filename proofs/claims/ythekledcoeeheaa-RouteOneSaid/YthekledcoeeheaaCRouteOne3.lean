/- Part of the proof of the law RouteOne: the functions that it reaches, by contract. -/
import Derived.Deep.Slices
import Derived.Test.YthekledcoeeheaaCRouteOne0
import Derived.Test.YthekledcoeeheaaCRouteOne1
import Derived.Test.YthekledcoeeheaaCRouteOne2
namespace Go.Proofs.Ythekledcoeeheaa.P
open Go.RowKit Go.Proofs.YthekledcoeeheaaW.PrintWords Go.Proofs.YthekledcoeeheaaW.PrintLast Go.Proofs.YthekledcoeeheaaW.PrintMore
attribute [local go_sem] max2_int min2_int max_two min_two max_three min_three max_four min_four
set_option linter.unusedVariables false
set_option linter.unusedSimpArgs false

/-! ### dragomanlaw03_RouteOne: function 10 -/
def q17z.f (k : Nat) (a0_0 : Int) (a0_1 : Int) (l0_2 : List Int) (l0_3 : List Int) (a0_4 : Int) (a0_5 : Int) (a0_6 : Int) (a0_7 : Int) : Option (Bool) := (q15z.f k).bind fun t2 => (if t2 = true then ((q16z.f a0_0 a0_1 l0_2 l0_3 a0_4 a0_5 a0_6 a0_7).bind fun t3 => (if t3 = true then (some true) else ((q6z.f k a0_0 a0_1 l0_2 l0_3 a0_4 a0_5 a0_6 a0_7).bind fun bt4 => ((q6z.f k bt4.1 bt4.2.1 bt4.2.2.1 bt4.2.2.2.1 bt4.2.2.2.2.1 bt4.2.2.2.2.2.1 bt4.2.2.2.2.2.2.1 bt4.2.2.2.2.2.2.2).bind fun bt17 => ((q13z.f k bt17.1 bt17.2.1 bt17.2.2.1 bt17.2.2.2.1 bt17.2.2.2.2.1 bt17.2.2.2.2.2.1 bt17.2.2.2.2.2.2.1 bt17.2.2.2.2.2.2.2 bt4.1 bt4.2.1 bt4.2.2.1 bt4.2.2.2.1 bt4.2.2.2.2.1 bt4.2.2.2.2.2.1 bt4.2.2.2.2.2.2.1 bt4.2.2.2.2.2.2.2).bind fun t29 => (if t29 = 0 then ((q4z.f k a0_0 a0_1 l0_2 l0_3 a0_4 a0_5 a0_6 a0_7).bind fun t30 => (if t30 = true then ((q13z.f k bt4.1 bt4.2.1 bt4.2.2.1 bt4.2.2.2.1 bt4.2.2.2.2.1 bt4.2.2.2.2.2.1 bt4.2.2.2.2.2.2.1 bt4.2.2.2.2.2.2.2 a0_0 a0_1 l0_2 l0_3 a0_4 a0_5 a0_6 a0_7).bind fun t31 => (if t31 = 0 then ((q4z.f k bt4.1 bt4.2.1 ([] : List Int) bt4.2.2.2.1 bt4.2.2.2.2.1 bt4.2.2.2.2.2.1 1 bt4.2.2.2.2.2.2.2).bind fun t32 => (some (t32 == (decide ((bt4.2.2.2.1.length : Int) ≤ 255))))) else (some false))) else ((q4z.f k bt4.1 bt4.2.1 ([] : List Int) bt4.2.2.2.1 bt4.2.2.2.2.1 bt4.2.2.2.2.2.1 1 bt4.2.2.2.2.2.2.2).bind fun t33 => (some (t33 == (decide ((bt4.2.2.2.1.length : Int) ≤ 255))))))) else (some false))))))) else (some false))
theorem q17z.mono : ∀ a0 a1 a2 a3 a4 a5 a6 a7 k, LeO (q17z.f k a0 a1 a2 a3 a4 a5 a6 a7) (q17z.f (k + 1) a0 a1 a2 a3 a4 a5 a6 a7) := by
 intro a0 a1 a2 a3 a4 a5 a6 a7 k
 unfold q17z.f
 repeat' first
   | (with_reducible exact q15z.mono _)
   | (with_reducible exact q6z.mono _ _ _ _ _ _ _ _ _)
   | (with_reducible exact q13z.mono _ _ _ _ _ _ _ _ _ _ _ _ _ _ _ _ _)
   | (with_reducible exact q4z.mono _ _ _ _ _ _ _ _ _)
   | (with_reducible exact LeO.refl _)
   | (with_reducible exact LeO.none _)
   | (with_reducible refine LeO.ite ?_ ?_)
   | (with_reducible refine LeO.bind ?_ (fun _ => ?_))
   | exact q15z.mono _
   | exact q6z.mono _ _ _ _ _ _ _ _ _
   | exact q13z.mono _ _ _ _ _ _ _ _ _ _ _ _ _ _ _ _ _
   | exact q4z.mono _ _ _ _ _ _ _ _ _
   | exact LeO.none _
   | refine LeO.ite ?_ ?_
   | refine LeO.bind ?_ (fun _ => ?_)
def q17z.T6 : Bool × List (List Nat × List Nat) := (true, [([], []), ([0], [0]), ([], []), ([1, 2, 1], [1, 2]), ([3], [3]), ([4, 3], [4]), ([5], [5]), ([6, 5, 5], [5, 6]), ([7, 7, 5], [5, 7]), ([8], [8]), ([8], [8]), ([9, 10, 8, 8], [8, 9, 10]), ([11, 8], [8, 11]), ([8, 12, 5], [5, 8, 12]), ([5, 13], [5, 13])])
def q17z.B6 : List Nat := [0, 1, 0, 7, 15, 31, 63, 127, 255, 511, 511, 2047, 4095, 8191, 16383]
theorem q17z.tab6 : rtab .any (opsOf Try.f10 6) = q17z.T6 := by kernel_rfl
theorem q17z.bits6 : waitsOk q17z.T6.2 q17z.B6 = true := by kernel_rfl
def q17z.T10 : Bool × List (List Nat × List Nat) := (true, [([], []), ([0], [0]), ([], []), ([2], [2]), ([3], [3]), ([4], [4]), ([1, 5], [1, 5]), ([6, 1, 0, 1, 2, 3, 4, 5, 6], [6])])
def q17z.B10 : List Nat := [0, 1, 0, 4, 12, 28, 63, 127]
theorem q17z.tab10 : rtab .any (opsOf Try.f10 10) = q17z.T10 := by kernel_rfl
theorem q17z.bits10 : waitsOk q17z.T10.2 q17z.B10 = true := by kernel_rfl
set_option maxHeartbeats 8000000 in
set_option maxRecDepth 100000 in
theorem q17z.calls (k : Nat) (a0_0 : Int) (a0_1 : Int) (A0_2 : Option Addr) (c0_2 : Nat) (l0_2 : List Int) (A0_3 : Option Addr) (c0_3 : Nat) (l0_3 : List Int) (a0_4 : Int) (a0_5 : Int) (a0_6 : Int) (a0_7 : Int) (r : Bool) (w : World) (hr0_2 : Kd.C (Kd.int .u32) w A0_2 l0_2.length l0_2) (hc0_2 : l0_2.length ≤ c0_2) (hr0_3 : Kd.C (Kd.int .u32) w A0_3 l0_3.length l0_3) (hc0_3 : l0_3.length ≤ c0_3) (h : q17z.f k a0_0 a0_1 l0_2 l0_3 a0_4 a0_5 a0_6 a0_7 = some r) :
  Calls Try.prog 10 #[.agg #[.int .u32 a0_0, .int .i64 a0_1, .slice A0_2 l0_2.length c0_2, .slice A0_3 l0_3.length c0_3, .int .u32 a0_4, .int .u32 a0_5, .int .i64 a0_6, .int .u32 a0_7]] w fun e w' => e = .returned (.bool r) ∧ Below w.heap.size w w' := by
 have hu38 := Try.underlying38
 have HR0_2 := Aside0.mk hr0_2
 have HC0_2 := Aside0.mk hc0_2
 clear hr0_2 hc0_2
 have HR0_3 := Aside0.mk hr0_3
 have HC0_3 := Aside0.mk hc0_3
 clear hr0_3 hc0_3
 have HB := Aside0.mk (Below.refl w.heap.size w)
 have H : ((q15z.f k).bind fun t2 => (if t2 = true then ((q16z.f a0_0 a0_1 l0_2 l0_3 a0_4 a0_5 a0_6 a0_7).bind fun t3 => (if t3 = true then (some true) else ((q6z.f k a0_0 a0_1 l0_2 l0_3 a0_4 a0_5 a0_6 a0_7).bind fun bt4 => ((q6z.f k bt4.1 bt4.2.1 bt4.2.2.1 bt4.2.2.2.1 bt4.2.2.2.2.1 bt4.2.2.2.2.2.1 bt4.2.2.2.2.2.2.1 bt4.2.2.2.2.2.2.2).bind fun bt17 => ((q13z.f k bt17.1 bt17.2.1 bt17.2.2.1 bt17.2.2.2.1 bt17.2.2.2.2.1 bt17.2.2.2.2.2.1 bt17.2.2.2.2.2.2.1 bt17.2.2.2.2.2.2.2 bt4.1 bt4.2.1 bt4.2.2.1 bt4.2.2.2.1 bt4.2.2.2.2.1 bt4.2.2.2.2.2.1 bt4.2.2.2.2.2.2.1 bt4.2.2.2.2.2.2.2).bind fun t29 => (if t29 = 0 then ((q4z.f k a0_0 a0_1 l0_2 l0_3 a0_4 a0_5 a0_6 a0_7).bind fun t30 => (if t30 = true then ((q13z.f k bt4.1 bt4.2.1 bt4.2.2.1 bt4.2.2.2.1 bt4.2.2.2.2.1 bt4.2.2.2.2.2.1 bt4.2.2.2.2.2.2.1 bt4.2.2.2.2.2.2.2 a0_0 a0_1 l0_2 l0_3 a0_4 a0_5 a0_6 a0_7).bind fun t31 => (if t31 = 0 then ((q4z.f k bt4.1 bt4.2.1 ([] : List Int) bt4.2.2.2.1 bt4.2.2.2.2.1 bt4.2.2.2.2.2.1 1 bt4.2.2.2.2.2.2.2).bind fun t32 => (some (t32 == (decide ((bt4.2.2.2.1.length : Int) ≤ 255))))) else (some false))) else ((q4z.f k bt4.1 bt4.2.1 ([] : List Int) bt4.2.2.2.1 bt4.2.2.2.2.1 bt4.2.2.2.2.2.1 1 bt4.2.2.2.2.2.2.2).bind fun t33 => (some (t33 == (decide ((bt4.2.2.2.1.length : Int) ≤ 255))))))) else (some false))))))) else (some false))) = some r := h
 clear h
 replace H := Option.bind_eq_some_iff.mp H
 obtain ⟨t2, A20, H⟩ := H
 replace H : (if t2 = true then ((q16z.f a0_0 a0_1 l0_2 l0_3 a0_4 a0_5 a0_6 a0_7).bind fun t3 => (if t3 = true then (some true) else ((q6z.f k a0_0 a0_1 l0_2 l0_3 a0_4 a0_5 a0_6 a0_7).bind fun bt4 => ((q6z.f k bt4.1 bt4.2.1 bt4.2.2.1 bt4.2.2.2.1 bt4.2.2.2.2.1 bt4.2.2.2.2.2.1 bt4.2.2.2.2.2.2.1 bt4.2.2.2.2.2.2.2).bind fun bt17 => ((q13z.f k bt17.1 bt17.2.1 bt17.2.2.1 bt17.2.2.2.1 bt17.2.2.2.2.1 bt17.2.2.2.2.2.1 bt17.2.2.2.2.2.2.1 bt17.2.2.2.2.2.2.2 bt4.1 bt4.2.1 bt4.2.2.1 bt4.2.2.2.1 bt4.2.2.2.2.1 bt4.2.2.2.2.2.1 bt4.2.2.2.2.2.2.1 bt4.2.2.2.2.2.2.2).bind fun t29 => (if t29 = 0 then ((q4z.f k a0_0 a0_1 l0_2 l0_3 a0_4 a0_5 a0_6 a0_7).bind fun t30 => (if t30 = true then ((q13z.f k bt4.1 bt4.2.1 bt4.2.2.1 bt4.2.2.2.1 bt4.2.2.2.2.1 bt4.2.2.2.2.2.1 bt4.2.2.2.2.2.2.1 bt4.2.2.2.2.2.2.2 a0_0 a0_1 l0_2 l0_3 a0_4 a0_5 a0_6 a0_7).bind fun t31 => (if t31 = 0 then ((q4z.f k bt4.1 bt4.2.1 ([] : List Int) bt4.2.2.2.1 bt4.2.2.2.2.1 bt4.2.2.2.2.2.1 1 bt4.2.2.2.2.2.2.2).bind fun t32 => (some (t32 == (decide ((bt4.2.2.2.1.length : Int) ≤ 255))))) else (some false))) else ((q4z.f k bt4.1 bt4.2.1 ([] : List Int) bt4.2.2.2.1 bt4.2.2.2.2.1 bt4.2.2.2.2.2.1 1 bt4.2.2.2.2.2.2.2).bind fun t33 => (some (t33 == (decide ((bt4.2.2.2.1.length : Int) ≤ 255))))))) else (some false))))))) else (some false)) = some r := H
 have A2 := Aside0.mk A20
 clear A20
 by_cases c3 : t2 = true
 ·
  subst c3
  have H1 : ((q16z.f a0_0 a0_1 l0_2 l0_3 a0_4 a0_5 a0_6 a0_7).bind fun t3 => (if t3 = true then (some true) else ((q6z.f k a0_0 a0_1 l0_2 l0_3 a0_4 a0_5 a0_6 a0_7).bind fun bt4 => ((q6z.f k bt4.1 bt4.2.1 bt4.2.2.1 bt4.2.2.2.1 bt4.2.2.2.2.1 bt4.2.2.2.2.2.1 bt4.2.2.2.2.2.2.1 bt4.2.2.2.2.2.2.2).bind fun bt17 => ((q13z.f k bt17.1 bt17.2.1 bt17.2.2.1 bt17.2.2.2.1 bt17.2.2.2.2.1 bt17.2.2.2.2.2.1 bt17.2.2.2.2.2.2.1 bt17.2.2.2.2.2.2.2 bt4.1 bt4.2.1 bt4.2.2.1 bt4.2.2.2.1 bt4.2.2.2.2.1 bt4.2.2.2.2.2.1 bt4.2.2.2.2.2.2.1 bt4.2.2.2.2.2.2.2).bind fun t29 => (if t29 = 0 then ((q4z.f k a0_0 a0_1 l0_2 l0_3 a0_4 a0_5 a0_6 a0_7).bind fun t30 => (if t30 = true then ((q13z.f k bt4.1 bt4.2.1 bt4.2.2.1 bt4.2.2.2.1 bt4.2.2.2.2.1 bt4.2.2.2.2.2.1 bt4.2.2.2.2.2.2.1 bt4.2.2.2.2.2.2.2 a0_0 a0_1 l0_2 l0_3 a0_4 a0_5 a0_6 a0_7).bind fun t31 => (if t31 = 0 then ((q4z.f k bt4.1 bt4.2.1 ([] : List Int) bt4.2.2.2.1 bt4.2.2.2.2.1 bt4.2.2.2.2.2.1 1 bt4.2.2.2.2.2.2.2).bind fun t32 => (some (t32 == (decide ((bt4.2.2.2.1.length : Int) ≤ 255))))) else (some false))) else ((q4z.f k bt4.1 bt4.2.1 ([] : List Int) bt4.2.2.2.1 bt4.2.2.2.2.1 bt4.2.2.2.2.2.1 1 bt4.2.2.2.2.2.2.2).bind fun t33 => (some (t33 == (decide ((bt4.2.2.2.1.length : Int) ≤ 255))))))) else (some false))))))) = some r := by rw [if_pos rfl] at H; exact H
  clear H
  have H := H1
  clear H1
  replace H := Option.bind_eq_some_iff.mp H
  obtain ⟨t3, A40, H⟩ := H
  replace H : (if t3 = true then (some true) else ((q6z.f k a0_0 a0_1 l0_2 l0_3 a0_4 a0_5 a0_6 a0_7).bind fun bt4 => ((q6z.f k bt4.1 bt4.2.1 bt4.2.2.1 bt4.2.2.2.1 bt4.2.2.2.2.1 bt4.2.2.2.2.2.1 bt4.2.2.2.2.2.2.1 bt4.2.2.2.2.2.2.2).bind fun bt17 => ((q13z.f k bt17.1 bt17.2.1 bt17.2.2.1 bt17.2.2.2.1 bt17.2.2.2.2.1 bt17.2.2.2.2.2.1 bt17.2.2.2.2.2.2.1 bt17.2.2.2.2.2.2.2 bt4.1 bt4.2.1 bt4.2.2.1 bt4.2.2.2.1 bt4.2.2.2.2.1 bt4.2.2.2.2.2.1 bt4.2.2.2.2.2.2.1 bt4.2.2.2.2.2.2.2).bind fun t29 => (if t29 = 0 then ((q4z.f k a0_0 a0_1 l0_2 l0_3 a0_4 a0_5 a0_6 a0_7).bind fun t30 => (if t30 = true then ((q13z.f k bt4.1 bt4.2.1 bt4.2.2.1 bt4.2.2.2.1 bt4.2.2.2.2.1 bt4.2.2.2.2.2.1 bt4.2.2.2.2.2.2.1 bt4.2.2.2.2.2.2.2 a0_0 a0_1 l0_2 l0_3 a0_4 a0_5 a0_6 a0_7).bind fun t31 => (if t31 = 0 then ((q4z.f k bt4.1 bt4.2.1 ([] : List Int) bt4.2.2.2.1 bt4.2.2.2.2.1 bt4.2.2.2.2.2.1 1 bt4.2.2.2.2.2.2.2).bind fun t32 => (some (t32 == (decide ((bt4.2.2.2.1.length : Int) ≤ 255))))) else (some false))) else ((q4z.f k bt4.1 bt4.2.1 ([] : List Int) bt4.2.2.2.1 bt4.2.2.2.2.1 bt4.2.2.2.2.2.1 1 bt4.2.2.2.2.2.2.2).bind fun t33 => (some (t33 == (decide ((bt4.2.2.2.1.length : Int) ≤ 255))))))) else (some false)))))) = some r := H
  have A4 := Aside0.mk A40
  clear A40
  by_cases c5 : t3 = true
  ·
   subst c5
   have H1 : (some true) = some r := by rw [if_pos rfl] at H; exact H
   clear H
   have H := H1
   clear H1
   obtain rfl := Option.some.inj H
   go_enter Try.func10, Try.ntmps10
   go_wp2_with (first | ((with_reducible refine gate_dst (N := 1) rfl ?_); refine box_event ?hg (N := 1) ?hd (cs := #[.int .u32 a0_0, .int .i64 a0_1, .slice A0_2 l0_2.length c0_2, .slice A0_3 l0_3.length c0_3, .int .u32 a0_4, .int .u32 a0_5, .int .i64 a0_6, .int .u32 a0_7]) (t := 38) ?hr ?_; (case hd => rfl); (case hg => rfl); (case hr => first | (go_simp; done) | (go_simp; rfl)); intro gb1 hg w6 hbox hb; have n0_ := Aside0.mk (below_step (by repeat (first | (with_reducible first | exact HB.out | apply below_alloc | apply pw_below_drewN | apply below_drew1) | exact HB.out)) hb); have n1_ := Aside0.mk (hbox); have n2_ := Aside0.mk ((by rw [hg]; exact (below_size (by repeat (first | (with_reducible first | exact HB.out | apply below_alloc | apply pw_below_drewN | apply below_drew1) | exact HB.out))) : w.heap.size ≤ gb1)); have n3_ := Aside0.mk ((by rw [hg]; exact (below_size (by repeat (first | (with_reducible first | exact HB.out | apply below_alloc | apply pw_below_drewN | apply below_drew1) | exact HB.out))) : w.heap.size ≤ gb1)); clear HB; have HB := n0_; have BK1 := n1_; have GW1 := n2_; have GE1 := n3_; clear n0_ n1_ n2_ n3_; clear hb hbox hg) | ((with_reducible refine gate_callee (f := 29) rfl ?_); refine goesL_ (some 4) rfl rfl Try.func29 (by kernel_rfl) rfl #[] rfl (by (try simp only [List.map_toArray, List.map_cons, List.map_nil]); first | done | rfl | (simp only [List.length_drop, List.length_take]; rfl)) ?_; (with_reducible refine (q15z.calls k  true _ A2.out).mono ?_); rintro e w7 ⟨rfl, hb⟩; refine ⟨_, rfl, ?_⟩; have n0_ := Aside0.mk (blk_below (g := gb1) (o := .cells #[.int .u32 a0_0, .int .i64 a0_1, .slice A0_2 l0_2.length c0_2, .slice A0_3 l0_3.length c0_3, .int .u32 a0_4, .int .u32 a0_5, .int .i64 a0_6, .int .u32 a0_7] 38 (0, 0)) (by (with_reducible repeat (first | refine blk_drewN ?_ _ | refine blk_drew ?_ | refine blk_alloc ?_ _)); exact BK1.out) hb); have n1_ := Aside0.mk (below_step (by repeat (first | (with_reducible first | exact HB.out | apply below_alloc | apply pw_below_drewN | apply below_drew1 | refine below_set ?_ GE1.out) | exact HB.out)) hb); clear BK1; clear HB; have BK1 := n0_; have HB := n1_; clear n0_ n1_; (try clear hb); (try clear hb2); (try clear hk); (try clear hi); have hcz8_0 : w7.cell? ⟨gb1, 0, none⟩ = some (.int .u32 a0_0) := (blk_cell BK1.out 0).trans rfl; have hcz8_1 : w7.cell? ⟨gb1, 1, none⟩ = some (.int .i64 a0_1) := (blk_cell BK1.out 1).trans rfl; have hcz8_2 : w7.cell? ⟨gb1, 2, none⟩ = some (.slice A0_2 l0_2.length c0_2) := (blk_cell BK1.out 2).trans rfl; have hcz8_3 : w7.cell? ⟨gb1, 3, none⟩ = some (.slice A0_3 l0_3.length c0_3) := (blk_cell BK1.out 3).trans rfl; have hcz8_4 : w7.cell? ⟨gb1, 4, none⟩ = some (.int .u32 a0_4) := (blk_cell BK1.out 4).trans rfl; have hcz8_5 : w7.cell? ⟨gb1, 5, none⟩ = some (.int .u32 a0_5) := (blk_cell BK1.out 5).trans rfl; have hcz8_6 : w7.cell? ⟨gb1, 6, none⟩ = some (.int .i64 a0_6) := (blk_cell BK1.out 6).trans rfl; have hcz8_7 : w7.cell? ⟨gb1, 7, none⟩ = some (.int .u32 a0_7) := (blk_cell BK1.out 7).trans rfl; have hfz8_0 := blk_frozen BK1.out 0; have hfz8_1 := blk_frozen BK1.out 1; have hfz8_2 := blk_frozen BK1.out 2; have hfz8_3 := blk_frozen BK1.out 3; have hfz8_4 := blk_frozen BK1.out 4; have hfz8_5 := blk_frozen BK1.out 5; have hfz8_6 := blk_frozen BK1.out 6; have hfz8_7 := blk_frozen BK1.out 7) | ((with_reducible refine gate_callee (f := 34) rfl ?_); refine goesL_ (some 7) rfl rfl Try.func34 (by kernel_rfl) rfl #[.agg #[.int .u32 a0_0, .int .i64 a0_1, .slice A0_2 l0_2.length c0_2, .slice A0_3 l0_3.length c0_3, .int .u32 a0_4, .int .u32 a0_5, .int .i64 a0_6, .int .u32 a0_7]] rfl (by (try simp only [List.map_toArray, List.map_cons, List.map_nil]); first | done | rfl | (simp only [List.length_drop, List.length_take]; rfl)) ?_; (with_reducible refine (q16z.calls a0_0 a0_1 _ _ l0_2 _ _ l0_3 a0_4 a0_5 a0_6 a0_7 true _ ?side1 ?side2 ?side3 ?side4 A4.out).mono ?_); (case side1 => repeat (first | exact (Kd.C_below HR0_2.out HB.out) | (with_reducible refine Kd.C_alloc ?_ _) | (with_reducible refine Kd.C_drewN ?_ _) | (with_reducible refine Kd.C_drew ?_))); (case side2 => exact HC0_2.out); (case side3 => repeat (first | exact (Kd.C_below HR0_3.out HB.out) | (with_reducible refine Kd.C_alloc ?_ _) | (with_reducible refine Kd.C_drewN ?_ _) | (with_reducible refine Kd.C_drew ?_))); (case side4 => exact HC0_3.out); rintro e w9 ⟨rfl, hb⟩; refine ⟨_, rfl, ?_⟩; have n0_ := Aside0.mk (blk_below (g := gb1) (o := .cells #[.int .u32 a0_0, .int .i64 a0_1, .slice A0_2 l0_2.length c0_2, .slice A0_3 l0_3.length c0_3, .int .u32 a0_4, .int .u32 a0_5, .int .i64 a0_6, .int .u32 a0_7] 38 (0, 0)) (by (with_reducible repeat (first | refine blk_drewN ?_ _ | refine blk_drew ?_ | refine blk_alloc ?_ _)); exact BK1.out) hb); have n1_ := Aside0.mk (below_step (by repeat (first | (with_reducible first | exact HB.out | apply below_alloc | apply pw_below_drewN | apply below_drew1 | refine below_set ?_ GE1.out) | exact HB.out)) hb); clear BK1; clear HB; have BK1 := n0_; have HB := n1_; clear n0_ n1_; (try clear hb); (try clear hb2); (try clear hk); (try clear hi)))
   go_ret
   exact ⟨by first | rfl | (simp [errW_none, errW_some] <;> rfl) | (simp [*, errW_none, errW_some] <;> rfl), by repeat (first | (with_reducible first | exact HB.out | apply below_alloc | apply pw_below_drewN | apply below_drew1 | refine below_set ?_ GE1.out) | exact HB.out)⟩
  ·
   replace c5 := Bool.eq_false_iff.mpr c5
   subst c5
   have H1 : ((q6z.f k a0_0 a0_1 l0_2 l0_3 a0_4 a0_5 a0_6 a0_7).bind fun bt4 => ((q6z.f k bt4.1 bt4.2.1 bt4.2.2.1 bt4.2.2.2.1 bt4.2.2.2.2.1 bt4.2.2.2.2.2.1 bt4.2.2.2.2.2.2.1 bt4.2.2.2.2.2.2.2).bind fun bt17 => ((q13z.f k bt17.1 bt17.2.1 bt17.2.2.1 bt17.2.2.2.1 bt17.2.2.2.2.1 bt17.2.2.2.2.2.1 bt17.2.2.2.2.2.2.1 bt17.2.2.2.2.2.2.2 bt4.1 bt4.2.1 bt4.2.2.1 bt4.2.2.2.1 bt4.2.2.2.2.1 bt4.2.2.2.2.2.1 bt4.2.2.2.2.2.2.1 bt4.2.2.2.2.2.2.2).bind fun t29 => (if t29 = 0 then ((q4z.f k a0_0 a0_1 l0_2 l0_3 a0_4 a0_5 a0_6 a0_7).bind fun t30 => (if t30 = true then ((q13z.f k bt4.1 bt4.2.1 bt4.2.2.1 bt4.2.2.2.1 bt4.2.2.2.2.1 bt4.2.2.2.2.2.1 bt4.2.2.2.2.2.2.1 bt4.2.2.2.2.2.2.2 a0_0 a0_1 l0_2 l0_3 a0_4 a0_5 a0_6 a0_7).bind fun t31 => (if t31 = 0 then ((q4z.f k bt4.1 bt4.2.1 ([] : List Int) bt4.2.2.2.1 bt4.2.2.2.2.1 bt4.2.2.2.2.2.1 1 bt4.2.2.2.2.2.2.2).bind fun t32 => (some (t32 == (decide ((bt4.2.2.2.1.length : Int) ≤ 255))))) else (some false))) else ((q4z.f k bt4.1 bt4.2.1 ([] : List Int) bt4.2.2.2.1 bt4.2.2.2.2.1 bt4.2.2.2.2.2.1 1 bt4.2.2.2.2.2.2.2).bind fun t33 => (some (t33 == (decide ((bt4.2.2.2.1.length : Int) ≤ 255))))))) else (some false))))) = some r := by rw [if_neg (show ¬ (false = true) by decide)] at H; exact H
   clear H
   have H := H1
   clear H1
   replace H := Option.bind_eq_some_iff.mp H
   obtain ⟨⟨t4, t5, t6, t9, t12, t13, t14, t15⟩, A100, H⟩ := H
   replace H : ((q6z.f k t4 t5 t6 t9 t12 t13 t14 t15).bind fun bt17 => ((q13z.f k bt17.1 bt17.2.1 bt17.2.2.1 bt17.2.2.2.1 bt17.2.2.2.2.1 bt17.2.2.2.2.2.1 bt17.2.2.2.2.2.2.1 bt17.2.2.2.2.2.2.2 t4 t5 t6 t9 t12 t13 t14 t15).bind fun t29 => (if t29 = 0 then ((q4z.f k a0_0 a0_1 l0_2 l0_3 a0_4 a0_5 a0_6 a0_7).bind fun t30 => (if t30 = true then ((q13z.f k t4 t5 t6 t9 t12 t13 t14 t15 a0_0 a0_1 l0_2 l0_3 a0_4 a0_5 a0_6 a0_7).bind fun t31 => (if t31 = 0 then ((q4z.f k t4 t5 ([] : List Int) t9 t12 t13 1 t15).bind fun t32 => (some (t32 == (decide ((t9.length : Int) ≤ 255))))) else (some false))) else ((q4z.f k t4 t5 ([] : List Int) t9 t12 t13 1 t15).bind fun t33 => (some (t33 == (decide ((t9.length : Int) ≤ 255))))))) else (some false)))) = some r := H
   have A10 := Aside0.mk A100
   clear A100
   replace H := Option.bind_eq_some_iff.mp H
   obtain ⟨⟨t17, t18, t19, t22, t25, t26, t27, t28⟩, A110, H⟩ := H
   replace H : ((q13z.f k t17 t18 t19 t22 t25 t26 t27 t28 t4 t5 t6 t9 t12 t13 t14 t15).bind fun t29 => (if t29 = 0 then ((q4z.f k a0_0 a0_1 l0_2 l0_3 a0_4 a0_5 a0_6 a0_7).bind fun t30 => (if t30 = true then ((q13z.f k t4 t5 t6 t9 t12 t13 t14 t15 a0_0 a0_1 l0_2 l0_3 a0_4 a0_5 a0_6 a0_7).bind fun t31 => (if t31 = 0 then ((q4z.f k t4 t5 ([] : List Int) t9 t12 t13 1 t15).bind fun t32 => (some (t32 == (decide ((t9.length : Int) ≤ 255))))) else (some false))) else ((q4z.f k t4 t5 ([] : List Int) t9 t12 t13 1 t15).bind fun t33 => (some (t33 == (decide ((t9.length : Int) ≤ 255))))))) else (some false))) = some r := H
   have A11 := Aside0.mk A110
   clear A110
   replace H := Option.bind_eq_some_iff.mp H
   obtain ⟨t29, A120, H⟩ := H
   replace H : (if t29 = 0 then ((q4z.f k a0_0 a0_1 l0_2 l0_3 a0_4 a0_5 a0_6 a0_7).bind fun t30 => (if t30 = true then ((q13z.f k t4 t5 t6 t9 t12 t13 t14 t15 a0_0 a0_1 l0_2 l0_3 a0_4 a0_5 a0_6 a0_7).bind fun t31 => (if t31 = 0 then ((q4z.f k t4 t5 ([] : List Int) t9 t12 t13 1 t15).bind fun t32 => (some (t32 == (decide ((t9.length : Int) ≤ 255))))) else (some false))) else ((q4z.f k t4 t5 ([] : List Int) t9 t12 t13 1 t15).bind fun t33 => (some (t33 == (decide ((t9.length : Int) ≤ 255))))))) else (some false)) = some r := H
   have A12 := Aside0.mk A120
   clear A120
   by_cases c13 : t29 = 0
   ·
    rw [if_pos c13] at H
    have c13b0 : (t29 == 0) = true := beq_iff_eq.mpr c13
    have c13b1 : (t29 != 0) = false := bne_eq_false_iff_eq.mpr c13
    clear c13
    replace H := Option.bind_eq_some_iff.mp H
    obtain ⟨t30, A140, H⟩ := H
    replace H : (if t30 = true then ((q13z.f k t4 t5 t6 t9 t12 t13 t14 t15 a0_0 a0_1 l0_2 l0_3 a0_4 a0_5 a0_6 a0_7).bind fun t31 => (if t31 = 0 then ((q4z.f k t4 t5 ([] : List Int) t9 t12 t13 1 t15).bind fun t32 => (some (t32 == (decide ((t9.length : Int) ≤ 255))))) else (some false))) else ((q4z.f k t4 t5 ([] : List Int) t9 t12 t13 1 t15).bind fun t33 => (some (t33 == (decide ((t9.length : Int) ≤ 255)))))) = some r := H
    have A14 := Aside0.mk A140
    clear A140
    by_cases c15 : t30 = true
    ·
     subst c15
     have H1 : ((q13z.f k t4 t5 t6 t9 t12 t13 t14 t15 a0_0 a0_1 l0_2 l0_3 a0_4 a0_5 a0_6 a0_7).bind fun t31 => (if t31 = 0 then ((q4z.f k t4 t5 ([] : List Int) t9 t12 t13 1 t15).bind fun t32 => (some (t32 == (decide ((t9.length : Int) ≤ 255))))) else (some false))) = some r := by rw [if_pos rfl] at H; exact H
     clear H
     have H := H1
     clear H1
     replace H := Option.bind_eq_some_iff.mp H
     obtain ⟨t31, A160, H⟩ := H
     replace H : (if t31 = 0 then ((q4z.f k t4 t5 ([] : List Int) t9 t12 t13 1 t15).bind fun t32 => (some (t32 == (decide ((t9.length : Int) ≤ 255))))) else (some false)) = some r := H
     have A16 := Aside0.mk A160
     clear A160
     by_cases c17 : t31 = 0
     ·
      rw [if_pos c17] at H
      have c17b0 : (t31 == 0) = true := beq_iff_eq.mpr c17
      have c17b1 : (t31 != 0) = false := bne_eq_false_iff_eq.mpr c17
      clear c17
      replace H := Option.bind_eq_some_iff.mp H
      obtain ⟨t32, A180, H⟩ := H
      replace H : (some (t32 == (decide ((t9.length : Int) ≤ 255)))) = some r := H
      have A18 := Aside0.mk A180
      clear A180
      obtain rfl := Option.some.inj H
      go_enter Try.func10, Try.ntmps10
      try go_wp2_with (first | ((with_reducible refine gate_dst (N := 1) rfl ?_); refine box_event ?hg (N := 1) ?hd (cs := #[.int .u32 a0_0, .int .i64 a0_1, .slice A0_2 l0_2.length c0_2, .slice A0_3 l0_3.length c0_3, .int .u32 a0_4, .int .u32 a0_5, .int .i64 a0_6, .int .u32 a0_7]) (t := 38) ?hr ?_; (case hd => rfl); (case hg => rfl); (case hr => first | (go_simp; done) | (go_simp; rfl)); intro gb1 hg w19 hbox hb; have n0_ := Aside0.mk (below_step (by repeat (first | (with_reducible first | exact HB.out | apply below_alloc | apply pw_below_drewN | apply below_drew1) | exact HB.out)) hb); have n1_ := Aside0.mk (hbox); have n2_ := Aside0.mk ((by rw [hg]; exact (below_size (by repeat (first | (with_reducible first | exact HB.out | apply below_alloc | apply pw_below_drewN | apply below_drew1) | exact HB.out))) : w.heap.size ≤ gb1)); have n3_ := Aside0.mk ((by rw [hg]; exact (below_size (by repeat (first | (with_reducible first | exact HB.out | apply below_alloc | apply pw_below_drewN | apply below_drew1) | exact HB.out))) : w.heap.size ≤ gb1)); clear HB; have HB := n0_; have BK1 := n1_; have GW1 := n2_; have GE1 := n3_; clear n0_ n1_ n2_ n3_; clear hb hbox hg) | ((with_reducible refine gate_callee (f := 29) rfl ?_); refine goesL_ (some 4) rfl rfl Try.func29 (by kernel_rfl) rfl #[] rfl (by (try simp only [List.map_toArray, List.map_cons, List.map_nil]); first | done | rfl | (simp only [List.length_drop, List.length_take]; rfl)) ?_; (with_reducible refine (q15z.calls k  true _ A2.out).mono ?_); rintro e w20 ⟨rfl, hb⟩; refine ⟨_, rfl, ?_⟩; have n0_ := Aside0.mk (blk_below (g := gb1) (o := .cells #[.int .u32 a0_0, .int .i64 a0_1, .slice A0_2 l0_2.length c0_2, .slice A0_3 l0_3.length c0_3, .int .u32 a0_4, .int .u32 a0_5, .int .i64 a0_6, .int .u32 a0_7] 38 (0, 0)) (by (with_reducible repeat (first | refine blk_drewN ?_ _ | refine blk_drew ?_ | refine blk_alloc ?_ _)); exact BK1.out) hb); have n1_ := Aside0.mk (below_step (by repeat (first | (with_reducible first | exact HB.out | apply below_alloc | apply pw_below_drewN | apply below_drew1 | refine below_set ?_ GE1.out) | exact HB.out)) hb); clear BK1; clear HB; have BK1 := n0_; have HB := n1_; clear n0_ n1_; (try clear hb); (try clear hb2); (try clear hk); (try clear hi); have hcz21_0 : w20.cell? ⟨gb1, 0, none⟩ = some (.int .u32 a0_0) := (blk_cell BK1.out 0).trans rfl; have hcz21_1 : w20.cell? ⟨gb1, 1, none⟩ = some (.int .i64 a0_1) := (blk_cell BK1.out 1).trans rfl; have hcz21_2 : w20.cell? ⟨gb1, 2, none⟩ = some (.slice A0_2 l0_2.length c0_2) := (blk_cell BK1.out 2).trans rfl; have hcz21_3 : w20.cell? ⟨gb1, 3, none⟩ = some (.slice A0_3 l0_3.length c0_3) := (blk_cell BK1.out 3).trans rfl; have hcz21_4 : w20.cell? ⟨gb1, 4, none⟩ = some (.int .u32 a0_4) := (blk_cell BK1.out 4).trans rfl; have hcz21_5 : w20.cell? ⟨gb1, 5, none⟩ = some (.int .u32 a0_5) := (blk_cell BK1.out 5).trans rfl; have hcz21_6 : w20.cell? ⟨gb1, 6, none⟩ = some (.int .i64 a0_6) := (blk_cell BK1.out 6).trans rfl; have hcz21_7 : w20.cell? ⟨gb1, 7, none⟩ = some (.int .u32 a0_7) := (blk_cell BK1.out 7).trans rfl; have hfz21_0 := blk_frozen BK1.out 0; have hfz21_1 := blk_frozen BK1.out 1; have hfz21_2 := blk_frozen BK1.out 2; have hfz21_3 := blk_frozen BK1.out 3; have hfz21_4 := blk_frozen BK1.out 4; have hfz21_5 := blk_frozen BK1.out 5; have hfz21_6 := blk_frozen BK1.out 6; have hfz21_7 := blk_frozen BK1.out 7) | ((with_reducible refine gate_callee (f := 34) rfl ?_); refine goesL_ (some 7) rfl rfl Try.func34 (by kernel_rfl) rfl #[.agg #[.int .u32 a0_0, .int .i64 a0_1, .slice A0_2 l0_2.length c0_2, .slice A0_3 l0_3.length c0_3, .int .u32 a0_4, .int .u32 a0_5, .int .i64 a0_6, .int .u32 a0_7]] rfl (by (try simp only [List.map_toArray, List.map_cons, List.map_nil]); first | done | rfl | (simp only [List.length_drop, List.length_take]; rfl)) ?_; (with_reducible refine (q16z.calls a0_0 a0_1 _ _ l0_2 _ _ l0_3 a0_4 a0_5 a0_6 a0_7 false _ ?side1 ?side2 ?side3 ?side4 A4.out).mono ?_); (case side1 => repeat (first | exact (Kd.C_below HR0_2.out HB.out) | (with_reducible refine Kd.C_alloc ?_ _) | (with_reducible refine Kd.C_drewN ?_ _) | (with_reducible refine Kd.C_drew ?_))); (case side2 => exact HC0_2.out); (case side3 => repeat (first | exact (Kd.C_below HR0_3.out HB.out) | (with_reducible refine Kd.C_alloc ?_ _) | (with_reducible refine Kd.C_drewN ?_ _) | (with_reducible refine Kd.C_drew ?_))); (case side4 => exact HC0_3.out); rintro e w22 ⟨rfl, hb⟩; refine ⟨_, rfl, ?_⟩; have n0_ := Aside0.mk (blk_below (g := gb1) (o := .cells #[.int .u32 a0_0, .int .i64 a0_1, .slice A0_2 l0_2.length c0_2, .slice A0_3 l0_3.length c0_3, .int .u32 a0_4, .int .u32 a0_5, .int .i64 a0_6, .int .u32 a0_7] 38 (0, 0)) (by (with_reducible repeat (first | refine blk_drewN ?_ _ | refine blk_drew ?_ | refine blk_alloc ?_ _)); exact BK1.out) hb); have n1_ := Aside0.mk (below_step (by repeat (first | (with_reducible first | exact HB.out | apply below_alloc | apply pw_below_drewN | apply below_drew1 | refine below_set ?_ GE1.out) | exact HB.out)) hb); clear BK1; clear HB; have BK1 := n0_; have HB := n1_; clear n0_ n1_; (try clear hb); (try clear hb2); (try clear hk); (try clear hi); have hcz23_0 : w22.cell? ⟨gb1, 0, none⟩ = some (.int .u32 a0_0) := (blk_cell BK1.out 0).trans rfl; have hcz23_1 : w22.cell? ⟨gb1, 1, none⟩ = some (.int .i64 a0_1) := (blk_cell BK1.out 1).trans rfl; have hcz23_2 : w22.cell? ⟨gb1, 2, none⟩ = some (.slice A0_2 l0_2.length c0_2) := (blk_cell BK1.out 2).trans rfl; have hcz23_3 : w22.cell? ⟨gb1, 3, none⟩ = some (.slice A0_3 l0_3.length c0_3) := (blk_cell BK1.out 3).trans rfl; have hcz23_4 : w22.cell? ⟨gb1, 4, none⟩ = some (.int .u32 a0_4) := (blk_cell BK1.out 4).trans rfl; have hcz23_5 : w22.cell? ⟨gb1, 5, none⟩ = some (.int .u32 a0_5) := (blk_cell BK1.out 5).trans rfl; have hcz23_6 : w22.cell? ⟨gb1, 6, none⟩ = some (.int .i64 a0_6) := (blk_cell BK1.out 6).trans rfl; have hcz23_7 : w22.cell? ⟨gb1, 7, none⟩ = some (.int .u32 a0_7) := (blk_cell BK1.out 7).trans rfl; have hfz23_0 := blk_frozen BK1.out 0; have hfz23_1 := blk_frozen BK1.out 1; have hfz23_2 := blk_frozen BK1.out 2; have hfz23_3 := blk_frozen BK1.out 3; have hfz23_4 := blk_frozen BK1.out 4; have hfz23_5 := blk_frozen BK1.out 5; have hfz23_6 := blk_frozen BK1.out 6; have hfz23_7 := blk_frozen BK1.out 7) | ((with_reducible refine gate_callee (f := 36) rfl ?_); refine goesL_ (some 9) rfl rfl Try.func36 (by kernel_rfl) rfl #[.agg #[.int .u32 a0_0, .int .i64 a0_1, .slice A0_2 l0_2.length c0_2, .slice A0_3 l0_3.length c0_3, .int .u32 a0_4, .int .u32 a0_5, .int .i64 a0_6, .int .u32 a0_7]] rfl (by (try simp only [List.map_toArray, List.map_cons, List.map_nil]); first | done | rfl | (simp only [List.length_drop, List.length_take]; rfl)) ?_; (with_reducible refine (q6z.calls k a0_0 a0_1 _ _ l0_2 _ _ l0_3 a0_4 a0_5 a0_6 a0_7 t4 t5 t6 t9 t12 t13 t14 t15 _ ?side1 ?side2 ?side3 ?side4 A10.out).mono ?_); (case side1 => repeat (first | exact (Kd.C_below HR0_2.out HB.out) | (with_reducible refine Kd.C_alloc ?_ _) | (with_reducible refine Kd.C_drewN ?_ _) | (with_reducible refine Kd.C_drew ?_))); (case side2 => exact HC0_2.out); (case side3 => repeat (first | exact (Kd.C_below HR0_3.out HB.out) | (with_reducible refine Kd.C_alloc ?_ _) | (with_reducible refine Kd.C_drewN ?_ _) | (with_reducible refine Kd.C_drew ?_))); (case side4 => exact HC0_3.out); rintro e w24 ⟨v7, v10, rfl, ho0, ho1, hb⟩; refine ⟨_, rfl, ?_⟩; have n0_ := Aside0.mk (Kd.R_lower ho0 (below_size (by repeat (first | (with_reducible first | exact HB.out | apply below_alloc | apply pw_below_drewN | apply below_drew1 | refine below_set ?_ GE1.out) | exact HB.out)))); have n1_ := Aside0.mk (Kd.R_lower ho1 (below_size (by repeat (first | (with_reducible first | exact HB.out | apply below_alloc | apply pw_below_drewN | apply below_drew1 | refine below_set ?_ GE1.out) | exact HB.out)))); have n2_ := Aside0.mk (blk_below (g := gb1) (o := .cells #[.int .u32 a0_0, .int .i64 a0_1, .slice A0_2 l0_2.length c0_2, .slice A0_3 l0_3.length c0_3, .int .u32 a0_4, .int .u32 a0_5, .int .i64 a0_6, .int .u32 a0_7] 38 (0, 0)) (by (with_reducible repeat (first | refine blk_drewN ?_ _ | refine blk_drew ?_ | refine blk_alloc ?_ _)); exact BK1.out) hb); have n3_ := Aside0.mk (below_step (by repeat (first | (with_reducible first | exact HB.out | apply below_alloc | apply pw_below_drewN | apply below_drew1 | refine below_set ?_ GE1.out) | exact HB.out)) hb); clear BK1; clear HB; have HO8 := n0_; have HO11 := n1_; have BK1 := n2_; have HB := n3_; clear n0_ n1_ n2_ n3_; (try clear hb); (try clear hb2); (try clear hk); (try clear hi); (try clear ho0); (try clear ho1)) | ((with_reducible refine gate_dst (N := 3) rfl ?_); refine box_event ?hg (N := 3) ?hd (cs := #[.int .u32 0, .int .i64 0, .slice none 0 0, .slice none 0 0, .int .u32 0, .int .u32 0, .int .i64 0, .int .u32 0]) (t := 38) ?hr ?_; (case hd => rfl); (case hg => rfl); (case hr => first | (go_simp; done) | (go_simp; rfl)); intro gb16 hg w25 hbox hb; have n0_ := Aside0.mk (Kd.R_below (by (with_reducible repeat (first | apply Kd.R_alloc | apply Kd.R_drewN | apply Kd.R_drew)); exact HO8.out) hb); have n1_ := Aside0.mk (Kd.R_below (by (with_reducible repeat (first | apply Kd.R_alloc | apply Kd.R_drewN | apply Kd.R_drew)); exact HO11.out) hb); have n2_ := Aside0.mk (blk_below (g := gb1) (o := .cells #[.int .u32 a0_0, .int .i64 a0_1, .slice A0_2 l0_2.length c0_2, .slice A0_3 l0_3.length c0_3, .int .u32 a0_4, .int .u32 a0_5, .int .i64 a0_6, .int .u32 a0_7] 38 (0, 0)) (by (with_reducible repeat (first | refine blk_drewN ?_ _ | refine blk_drew ?_ | refine blk_alloc ?_ _)); exact BK1.out) hb); have n3_ := Aside0.mk (below_step (by repeat (first | (with_reducible first | exact HB.out | apply below_alloc | apply pw_below_drewN | apply below_drew1 | refine below_set ?_ GE1.out) | exact HB.out)) hb); have n4_ := Aside0.mk (hbox); have n5_ := Aside0.mk ((by rw [hg]; exact (below_size (by repeat (first | (with_reducible first | exact HB.out | apply below_alloc | apply pw_below_drewN | apply below_drew1 | refine below_set ?_ GE1.out) | exact HB.out))) : w.heap.size ≤ gb16)); have n6_ := Aside0.mk ((by rw [hg]; exact (below_size (by repeat (first | (with_reducible first | exact HB.out | apply below_alloc | apply pw_below_drewN | apply below_drew1 | refine below_set ?_ GE1.out) | exact HB.out))) : w.heap.size ≤ gb16)); have n7_ := Aside0.mk ((by rw [hg]; exact Nat.ne_of_lt (blk_lt (g := gb1) (o := .cells #[.int .u32 a0_0, .int .i64 a0_1, .slice A0_2 l0_2.length c0_2, .slice A0_3 l0_3.length c0_3, .int .u32 a0_4, .int .u32 a0_5, .int .i64 a0_6, .int .u32 a0_7] 38 (0, 0)) (by (with_reducible repeat (first | refine blk_drewN ?_ _ | refine blk_drew ?_ | refine blk_alloc ?_ _)); exact BK1.out)) : gb1 ≠ gb16)); have n8_ := Aside0.mk ((by rw [hg]; exact Nat.ne_of_gt (blk_lt (g := gb1) (o := .cells #[.int .u32 a0_0, .int .i64 a0_1, .slice A0_2 l0_2.length c0_2, .slice A0_3 l0_3.length c0_3, .int .u32 a0_4, .int .u32 a0_5, .int .i64 a0_6, .int .u32 a0_7] 38 (0, 0)) (by (with_reducible repeat (first | refine blk_drewN ?_ _ | refine blk_drew ?_ | refine blk_alloc ?_ _)); exact BK1.out)) : gb16 ≠ gb1)); clear HO8; clear HO11; clear BK1; clear HB; have HO8 := n0_; have HO11 := n1_; have BK1 := n2_; have HB := n3_; have BK16 := n4_; have GW16 := n5_; have GE16 := n6_; have NB1_16 := n7_; have NB16_1 := n8_; clear n0_ n1_ n2_ n3_ n4_ n5_ n6_ n7_ n8_; clear hb hbox hg; have hnb26 := NB16_1.out; have hnc26 := NB1_16.out; have hcz27_0 : w25.cell? ⟨gb16, 0, none⟩ = some (.int .u32 0) := (blk_cell BK16.out 0).trans rfl; have hcz27_1 : w25.cell? ⟨gb16, 1, none⟩ = some (.int .i64 0) := (blk_cell BK16.out 1).trans rfl; have hcz27_2 : w25.cell? ⟨gb16, 2, none⟩ = some (.slice none 0 0) := (blk_cell BK16.out 2).trans rfl; have hcz27_3 : w25.cell? ⟨gb16, 3, none⟩ = some (.slice none 0 0) := (blk_cell BK16.out 3).trans rfl; have hcz27_4 : w25.cell? ⟨gb16, 4, none⟩ = some (.int .u32 0) := (blk_cell BK16.out 4).trans rfl; have hcz27_5 : w25.cell? ⟨gb16, 5, none⟩ = some (.int .u32 0) := (blk_cell BK16.out 5).trans rfl; have hcz27_6 : w25.cell? ⟨gb16, 6, none⟩ = some (.int .i64 0) := (blk_cell BK16.out 6).trans rfl; have hcz27_7 : w25.cell? ⟨gb16, 7, none⟩ = some (.int .u32 0) := (blk_cell BK16.out 7).trans rfl; have hfz27_0 := blk_frozen BK16.out 0; have hfz27_1 := blk_frozen BK16.out 1; have hfz27_2 := blk_frozen BK16.out 2; have hfz27_3 := blk_frozen BK16.out 3; have hfz27_4 := blk_frozen BK16.out 4; have hfz27_5 := blk_frozen BK16.out 5; have hfz27_6 := blk_frozen BK16.out 6; have hfz27_7 := blk_frozen BK16.out 7; obtain ⟨Ao28, co28, eo28⟩ := Kd.R_slice HO8.out; subst eo28; obtain ⟨Ao29, co29, eo29⟩ := Kd.R_slice HO11.out; subst eo29))
      have n0_ : Aside0 (Kd.R (Kd.int .u32) 33 ((((((((w25.setCell ⟨gb16, 0, none⟩ (.int .u32 t4)).setCell ⟨gb16, 1, none⟩ (.int .i64 t5)).setCell ⟨gb16, 2, none⟩ (.slice Ao28 t6.length co28)).setCell ⟨gb16, 3, none⟩ (.slice Ao29 t9.length co29)).setCell ⟨gb16, 4, none⟩ (.int .u32 t12)).setCell ⟨gb16, 5, none⟩ (.int .u32 t13)).setCell ⟨gb16, 6, none⟩ (.int .i64 t14)).setCell ⟨gb16, 7, none⟩ (.int .u32 t15)) w.heap.size (fun k_ => some k_ ≠ (.slice Ao29 t9.length co29 : Value).ownBlock) (.slice Ao28 t6.length co28) t6) := ⟨by (with_reducible repeat (first | apply Kd.R_alloc | apply Kd.R_drewN | apply Kd.R_drew)); exact Kd.R_mono (Kd.R_far (p := ⟨gb16, 7, none⟩) (Kd.R_far (p := ⟨gb16, 6, none⟩) (Kd.R_far (p := ⟨gb16, 5, none⟩) (Kd.R_far (p := ⟨gb16, 4, none⟩) (Kd.R_far (p := ⟨gb16, 3, none⟩) (Kd.R_far (p := ⟨gb16, 2, none⟩) (Kd.R_far (p := ⟨gb16, 1, none⟩) (Kd.R_far (p := ⟨gb16, 0, none⟩) (Kd.R_types HO8.out BK16.out (by decide)) (fun _ hk => hk.2) (.int .u32 t4)) (fun _ hk => hk.2) (.int .i64 t5)) (fun _ hk => hk.2) (.slice Ao28 t6.length co28)) (fun _ hk => hk.2) (.slice Ao29 t9.length co29)) (fun _ hk => hk.2) (.int .u32 t12)) (fun _ hk => hk.2) (.int .u32 t13)) (fun _ hk => hk.2) (.int .i64 t14)) (fun _ hk => hk.2) (.int .u32 t15)) (fun _ hk => hk.1)⟩
      have n1_ : Aside0 (Kd.R (Kd.int .u32) 33 ((((((((w25.setCell ⟨gb16, 0, none⟩ (.int .u32 t4)).setCell ⟨gb16, 1, none⟩ (.int .i64 t5)).setCell ⟨gb16, 2, none⟩ (.slice Ao28 t6.length co28)).setCell ⟨gb16, 3, none⟩ (.slice Ao29 t9.length co29)).setCell ⟨gb16, 4, none⟩ (.int .u32 t12)).setCell ⟨gb16, 5, none⟩ (.int .u32 t13)).setCell ⟨gb16, 6, none⟩ (.int .i64 t14)).setCell ⟨gb16, 7, none⟩ (.int .u32 t15)) w.heap.size (fun k_ => some k_ ≠ (.slice Ao28 t6.length co28 : Value).ownBlock) (.slice Ao29 t9.length co29) t9) := ⟨by (with_reducible repeat (first | apply Kd.R_alloc | apply Kd.R_drewN | apply Kd.R_drew)); exact Kd.R_mono (Kd.R_far (p := ⟨gb16, 7, none⟩) (Kd.R_far (p := ⟨gb16, 6, none⟩) (Kd.R_far (p := ⟨gb16, 5, none⟩) (Kd.R_far (p := ⟨gb16, 4, none⟩) (Kd.R_far (p := ⟨gb16, 3, none⟩) (Kd.R_far (p := ⟨gb16, 2, none⟩) (Kd.R_far (p := ⟨gb16, 1, none⟩) (Kd.R_far (p := ⟨gb16, 0, none⟩) (Kd.R_types HO11.out BK16.out (by decide)) (fun _ hk => hk.2) (.int .u32 t4)) (fun _ hk => hk.2) (.int .i64 t5)) (fun _ hk => hk.2) (.slice Ao28 t6.length co28)) (fun _ hk => hk.2) (.slice Ao29 t9.length co29)) (fun _ hk => hk.2) (.int .u32 t12)) (fun _ hk => hk.2) (.int .u32 t13)) (fun _ hk => hk.2) (.int .i64 t14)) (fun _ hk => hk.2) (.int .u32 t15)) (fun _ hk => hk.1)⟩
      have n2_ : Aside0 (((((((((w25.setCell ⟨gb16, 0, none⟩ (.int .u32 t4)).setCell ⟨gb16, 1, none⟩ (.int .i64 t5)).setCell ⟨gb16, 2, none⟩ (.slice Ao28 t6.length co28)).setCell ⟨gb16, 3, none⟩ (.slice Ao29 t9.length co29)).setCell ⟨gb16, 4, none⟩ (.int .u32 t12)).setCell ⟨gb16, 5, none⟩ (.int .u32 t13)).setCell ⟨gb16, 6, none⟩ (.int .i64 t14)).setCell ⟨gb16, 7, none⟩ (.int .u32 t15)).heap[gb1]? = some (.cells #[.int .u32 a0_0, .int .i64 a0_1, .slice A0_2 l0_2.length c0_2, .slice A0_3 l0_3.length c0_3, .int .u32 a0_4, .int .u32 a0_5, .int .i64 a0_6, .int .u32 a0_7] 38 (0, 0))) := ⟨by (with_reducible repeat (first | refine blk_drewN ?_ _ | refine blk_drew ?_ | refine blk_alloc ?_ _)); refine blk_far ?_ NB1_16.out _; (with_reducible repeat (first | refine blk_drewN ?_ _ | refine blk_drew ?_ | refine blk_alloc ?_ _)); refine blk_far ?_ NB1_16.out _; (with_reducible repeat (first | refine blk_drewN ?_ _ | refine blk_drew ?_ | refine blk_alloc ?_ _)); refine blk_far ?_ NB1_16.out _; (with_reducible repeat (first | refine blk_drewN ?_ _ | refine blk_drew ?_ | refine blk_alloc ?_ _)); refine blk_far ?_ NB1_16.out _; (with_reducible repeat (first | refine blk_drewN ?_ _ | refine blk_drew ?_ | refine blk_alloc ?_ _)); refine blk_far ?_ NB1_16.out _; (with_reducible repeat (first | refine blk_drewN ?_ _ | refine blk_drew ?_ | refine blk_alloc ?_ _)); refine blk_far ?_ NB1_16.out _; (with_reducible repeat (first | refine blk_drewN ?_ _ | refine blk_drew ?_ | refine blk_alloc ?_ _)); refine blk_far ?_ NB1_16.out _; (with_reducible repeat (first | refine blk_drewN ?_ _ | refine blk_drew ?_ | refine blk_alloc ?_ _)); refine blk_far ?_ NB1_16.out _; (with_reducible repeat (first | refine blk_drewN ?_ _ | refine blk_drew ?_ | refine blk_alloc ?_ _)); exact BK1.out⟩
      have n3_ : Aside0 (((((((((w25.setCell ⟨gb16, 0, none⟩ (.int .u32 t4)).setCell ⟨gb16, 1, none⟩ (.int .i64 t5)).setCell ⟨gb16, 2, none⟩ (.slice Ao28 t6.length co28)).setCell ⟨gb16, 3, none⟩ (.slice Ao29 t9.length co29)).setCell ⟨gb16, 4, none⟩ (.int .u32 t12)).setCell ⟨gb16, 5, none⟩ (.int .u32 t13)).setCell ⟨gb16, 6, none⟩ (.int .i64 t14)).setCell ⟨gb16, 7, none⟩ (.int .u32 t15)).heap[gb16]? = some (.cells #[.int .u32 t4, .int .i64 t5, .slice Ao28 t6.length co28, .slice Ao29 t9.length co29, .int .u32 t12, .int .u32 t13, .int .i64 t14, .int .u32 t15] 38 (0, 0))) := ⟨by (with_reducible repeat (first | refine blk_drewN ?_ _ | refine blk_drew ?_ | refine blk_alloc ?_ _)); refine blk_put (cs := #[.int .u32 t4, .int .i64 t5, .slice Ao28 t6.length co28, .slice Ao29 t9.length co29, .int .u32 t12, .int .u32 t13, .int .i64 t14, .int .u32 0]) ?_ 7 _ rfl; (with_reducible repeat (first | refine blk_drewN ?_ _ | refine blk_drew ?_ | refine blk_alloc ?_ _)); refine blk_put (cs := #[.int .u32 t4, .int .i64 t5, .slice Ao28 t6.length co28, .slice Ao29 t9.length co29, .int .u32 t12, .int .u32 t13, .int .i64 0, .int .u32 0]) ?_ 6 _ rfl; (with_reducible repeat (first | refine blk_drewN ?_ _ | refine blk_drew ?_ | refine blk_alloc ?_ _)); refine blk_put (cs := #[.int .u32 t4, .int .i64 t5, .slice Ao28 t6.length co28, .slice Ao29 t9.length co29, .int .u32 t12, .int .u32 0, .int .i64 0, .int .u32 0]) ?_ 5 _ rfl; (with_reducible repeat (first | refine blk_drewN ?_ _ | refine blk_drew ?_ | refine blk_alloc ?_ _)); refine blk_put (cs := #[.int .u32 t4, .int .i64 t5, .slice Ao28 t6.length co28, .slice Ao29 t9.length co29, .int .u32 0, .int .u32 0, .int .i64 0, .int .u32 0]) ?_ 4 _ rfl; (with_reducible repeat (first | refine blk_drewN ?_ _ | refine blk_drew ?_ | refine blk_alloc ?_ _)); refine blk_put (cs := #[.int .u32 t4, .int .i64 t5, .slice Ao28 t6.length co28, .slice none 0 0, .int .u32 0, .int .u32 0, .int .i64 0, .int .u32 0]) ?_ 3 _ rfl; (with_reducible repeat (first | refine blk_drewN ?_ _ | refine blk_drew ?_ | refine blk_alloc ?_ _)); refine blk_put (cs := #[.int .u32 t4, .int .i64 t5, .slice none 0 0, .slice none 0 0, .int .u32 0, .int .u32 0, .int .i64 0, .int .u32 0]) ?_ 2 _ rfl; (with_reducible repeat (first | refine blk_drewN ?_ _ | refine blk_drew ?_ | refine blk_alloc ?_ _)); refine blk_put (cs := #[.int .u32 t4, .int .i64 0, .slice none 0 0, .slice none 0 0, .int .u32 0, .int .u32 0, .int .i64 0, .int .u32 0]) ?_ 1 _ rfl; (with_reducible repeat (first | refine blk_drewN ?_ _ | refine blk_drew ?_ | refine blk_alloc ?_ _)); refine blk_put (cs := #[.int .u32 0, .int .i64 0, .slice none 0 0, .slice none 0 0, .int .u32 0, .int .u32 0, .int .i64 0, .int .u32 0]) ?_ 0 _ rfl; (with_reducible repeat (first | refine blk_drewN ?_ _ | refine blk_drew ?_ | refine blk_alloc ?_ _)); exact BK16.out⟩
      have n4_ : Aside0 (Below w.heap.size w ((((((((w25.setCell ⟨gb16, 0, none⟩ (.int .u32 t4)).setCell ⟨gb16, 1, none⟩ (.int .i64 t5)).setCell ⟨gb16, 2, none⟩ (.slice Ao28 t6.length co28)).setCell ⟨gb16, 3, none⟩ (.slice Ao29 t9.length co29)).setCell ⟨gb16, 4, none⟩ (.int .u32 t12)).setCell ⟨gb16, 5, none⟩ (.int .u32 t13)).setCell ⟨gb16, 6, none⟩ (.int .i64 t14)).setCell ⟨gb16, 7, none⟩ (.int .u32 t15))) := ⟨by repeat (first | (with_reducible first | exact HB.out | apply below_alloc | apply pw_below_drewN | apply below_drew1 | refine below_set ?_ GE1.out | refine below_set ?_ GE16.out) | exact HB.out)⟩
      (try clear HO8)
      (try clear HO11)
      (try clear BK1)
      (try clear BK16)
      (try clear HB)
      generalize ((((((((w25.setCell ⟨gb16, 0, none⟩ (.int .u32 t4)).setCell ⟨gb16, 1, none⟩ (.int .i64 t5)).setCell ⟨gb16, 2, none⟩ (.slice Ao28 t6.length co28)).setCell ⟨gb16, 3, none⟩ (.slice Ao29 t9.length co29)).setCell ⟨gb16, 4, none⟩ (.int .u32 t12)).setCell ⟨gb16, 5, none⟩ (.int .u32 t13)).setCell ⟨gb16, 6, none⟩ (.int .i64 t14)).setCell ⟨gb16, 7, none⟩ (.int .u32 t15)) = w30 at n0_ n1_ n2_ n3_ n4_ ⊢
      have HO8 := n0_
      have HO11 := n1_
      have BK1 := n2_
      have BK16 := n3_
      have HB := n4_
      clear n0_ n1_ n2_ n3_ n4_
      have n0_ := Aside0.mk (Kd.R_drew HO8.out)
      have n1_ := Aside0.mk (Kd.R_drew HO11.out)
      have n2_ := Aside0.mk (blk_drew BK1.out)
      have n3_ := Aside0.mk (blk_drew BK16.out)
      have n4_ := Aside0.mk (below_drew1 HB.out)
      clear HO8
      clear HO11
      clear BK1
      clear BK16
      clear HB
      have HO8 := n0_
      have HO11 := n1_
      have BK1 := n2_
      have BK16 := n3_
      have HB := n4_
      clear n0_ n1_ n2_ n3_ n4_
      refine start_ (n := 15) (S := fun w' => w'.cell? ⟨gb16, 0, none⟩ = some (.int .u32 t4) ∧ w'.cell? ⟨gb16, 1, none⟩ = some (.int .i64 t5) ∧ w'.cell? ⟨gb16, 2, none⟩ = some (.slice Ao28 t6.length co28) ∧ w'.cell? ⟨gb16, 3, none⟩ = some (.slice Ao29 t9.length co29) ∧ w'.cell? ⟨gb16, 4, none⟩ = some (.int .u32 t12) ∧ w'.cell? ⟨gb16, 5, none⟩ = some (.int .u32 t13) ∧ w'.cell? ⟨gb16, 6, none⟩ = some (.int .i64 t14) ∧ w'.cell? ⟨gb16, 7, none⟩ = some (.int .u32 t15) ∧ w'.cell? ⟨gb1, 0, none⟩ = some (.int .u32 a0_0) ∧ w'.cell? ⟨gb1, 1, none⟩ = some (.int .i64 a0_1) ∧ w'.cell? ⟨gb1, 2, none⟩ = some (.slice A0_2 l0_2.length c0_2) ∧ w'.cell? ⟨gb1, 3, none⟩ = some (.slice A0_3 l0_3.length c0_3) ∧ w'.cell? ⟨gb1, 4, none⟩ = some (.int .u32 a0_4) ∧ w'.cell? ⟨gb1, 5, none⟩ = some (.int .u32 a0_5) ∧ w'.cell? ⟨gb1, 6, none⟩ = some (.int .i64 a0_6) ∧ w'.cell? ⟨gb1, 7, none⟩ = some (.int .u32 a0_7)) (ds := []) #[false, false, false, false, false, false, false, false, false, false, false, false, false, false, false] (by kernel_rfl) rfl rfl ⟨(blk_cell BK16.out 0).trans rfl, (blk_cell BK16.out 1).trans rfl, (blk_cell BK16.out 2).trans rfl, (blk_cell BK16.out 3).trans rfl, (blk_cell BK16.out 4).trans rfl, (blk_cell BK16.out 5).trans rfl, (blk_cell BK16.out 6).trans rfl, (blk_cell BK16.out 7).trans rfl, (blk_cell BK1.out 0).trans rfl, (blk_cell BK1.out 1).trans rfl, (blk_cell BK1.out 2).trans rfl, (blk_cell BK1.out 3).trans rfl, (blk_cell BK1.out 4).trans rfl, (blk_cell BK1.out 5).trans rfl, (blk_cell BK1.out 6).trans rfl, (blk_cell BK1.out 7).trans rfl⟩ (fun hHeld => ?_); refine with_tabW q17z.tab6 q17z.bits6 (fun HT_ HW_ => ?_)
      generalize w30.drew = w31 at HO8 HO11 BK1 BK16 HB hHeld ⊢
      refine take_ (i := 0) (N := some 10) (v := ?_) (a' := ?_) #[true, false, false, false, false, false, false, false, false, false, false, false, false, false, false] rfl rfl (take_ofW HT_.out HW_.out (by kernel_rfl)) (fun _ _ _ h => h) (Or.inl ⟨by rfl, ?_⟩) hHeld ?_ ?_
      rotate_left
      ·
       rintro w' ⟨s0, s1, s2, s3, s4, s5, s6, s7, s8, s9, s10, s11, s12, s13, s14, s15⟩
       go_simp
       with_reducible rfl
      rotate_left
      ·
       simp only [Act.put, List.setIfInBounds_toArray, List.set_cons_zero, List.set_cons_succ, i64_w, i32_w, IntKind.wrap_u32]
       rfl
      refine take_ (i := 2) (N := some 12) (v := ?_) (a' := ?_) #[true, false, true, false, false, false, false, false, false, false, false, false, false, false, false] rfl rfl (take_ofW HT_.out HW_.out (by kernel_rfl)) (fun _ _ _ h => h) (Or.inl ⟨by rfl, ?_⟩) hHeld ?_ ?_
      rotate_left
      ·
       rintro w' ⟨s0, s1, s2, s3, s4, s5, s6, s7, s8, s9, s10, s11, s12, s13, s14, s15⟩
       go_simp
       with_reducible rfl
      rotate_left
      ·
       simp only [Act.put, List.setIfInBounds_toArray, List.set_cons_zero, List.set_cons_succ, i64_w, i32_w, IntKind.wrap_u32]
       rfl
      refine one_ (i := 1) (N := some 11) #[true, true, true, false, false, false, false, false, false, false, false, false, false, false, false] rfl rfl (one_of HT_.out (by kernel_rfl)) (by decide) (fun K hK => ?_)
      refine goes_ Try.func36 (by kernel_rfl) rfl #[.agg #[.int .u32 t4, .int .i64 t5, .slice Ao28 t6.length co28, .slice Ao29 t9.length co29, .int .u32 t12, .int .u32 t13, .int .i64 t14, .int .u32 t15]] (by rfl) rfl rfl (by (try simp only [List.map_toArray, List.map_cons, List.map_nil]); first | done | rfl | (simp only [List.length_drop, List.length_take]; rfl)) ?_
      with_reducible refine (q6z.calls k t4 t5 _ _ t6 _ _ t9 t12 t13 t14 t15 t17 t18 t19 t22 t25 t26 t27 t28 _ ?side1 ?side2 ?side3 ?side4 A11.out).mono ?_
      (case side1 => repeat (first | exact (Kd.R_reads' HO8.out).2.2 | (with_reducible refine Kd.C_alloc ?_ _) | (with_reducible refine Kd.C_drewN ?_ _) | (with_reducible refine Kd.C_drew ?_)))
      (case side2 => exact (Kd.R_reads' HO8.out).2.1)
      (case side3 => repeat (first | exact (Kd.R_reads' HO11.out).2.2 | (with_reducible refine Kd.C_alloc ?_ _) | (with_reducible refine Kd.C_drewN ?_ _) | (with_reducible refine Kd.C_drew ?_)))
      (case side4 => exact (Kd.R_reads' HO11.out).2.1)
      rintro e w32 ⟨v20, v23, rfl, ho0, ho1, hb⟩
      refine ⟨_, rfl, ?_⟩
      have n0_ := Aside0.mk (Kd.R_mono (Kd.R_told (Kd.R_told (Kd.R_old (by (with_reducible repeat (first | apply Kd.R_alloc | apply Kd.R_drewN | apply Kd.R_drew)); exact HO8.out) hb) (Kd.R_base ho0)) (Kd.R_base ho1)) (fun _ h_ => h_.1))
      have n1_ := Aside0.mk (Kd.R_mono (Kd.R_told (Kd.R_told (Kd.R_old (by (with_reducible repeat (first | apply Kd.R_alloc | apply Kd.R_drewN | apply Kd.R_drew)); exact HO11.out) hb) (Kd.R_base ho0)) (Kd.R_base ho1)) (fun _ h_ => h_.1))
      have n2_ := Aside0.mk (Kd.R_lower (Kd.R_new' (Kd.R_new' ho0 (Kd.R_lt (by (with_reducible repeat (first | apply Kd.R_alloc | apply Kd.R_drewN | apply Kd.R_drew)); exact HO8.out))) (Kd.R_lt (by (with_reducible repeat (first | apply Kd.R_alloc | apply Kd.R_drewN | apply Kd.R_drew)); exact HO11.out))) (below_size (by repeat (first | (with_reducible first | exact HB.out | apply below_alloc | apply pw_below_drewN | apply below_drew1 | refine below_set ?_ GE1.out | refine below_set ?_ GE16.out) | exact HB.out))))
      have n3_ := Aside0.mk (Kd.R_lower (Kd.R_new' (Kd.R_new' ho1 (Kd.R_lt (by (with_reducible repeat (first | apply Kd.R_alloc | apply Kd.R_drewN | apply Kd.R_drew)); exact HO8.out))) (Kd.R_lt (by (with_reducible repeat (first | apply Kd.R_alloc | apply Kd.R_drewN | apply Kd.R_drew)); exact HO11.out))) (below_size (by repeat (first | (with_reducible first | exact HB.out | apply below_alloc | apply pw_below_drewN | apply below_drew1 | refine below_set ?_ GE1.out | refine below_set ?_ GE16.out) | exact HB.out))))
      have n4_ := Aside0.mk (blk_below (g := gb1) (o := .cells #[.int .u32 a0_0, .int .i64 a0_1, .slice A0_2 l0_2.length c0_2, .slice A0_3 l0_3.length c0_3, .int .u32 a0_4, .int .u32 a0_5, .int .i64 a0_6, .int .u32 a0_7] 38 (0, 0)) (by (with_reducible repeat (first | refine blk_drewN ?_ _ | refine blk_drew ?_ | refine blk_alloc ?_ _)); exact BK1.out) hb)
      have n5_ := Aside0.mk (blk_below (g := gb16) (o := .cells #[.int .u32 t4, .int .i64 t5, .slice Ao28 t6.length co28, .slice Ao29 t9.length co29, .int .u32 t12, .int .u32 t13, .int .i64 t14, .int .u32 t15] 38 (0, 0)) (by (with_reducible repeat (first | refine blk_drewN ?_ _ | refine blk_drew ?_ | refine blk_alloc ?_ _)); exact BK16.out) hb)
      have n6_ := Aside0.mk (below_step (by repeat (first | (with_reducible first | exact HB.out | apply below_alloc | apply pw_below_drewN | apply below_drew1 | refine below_set ?_ GE1.out | refine below_set ?_ GE16.out) | exact HB.out)) hb)
      clear HO8
      clear HO11
      clear BK1
      clear BK16
      clear HB
      have HO8 := n0_
      have HO11 := n1_
      have HO21 := n2_
      have HO24 := n3_
      have BK1 := n4_
      have BK16 := n5_
      have HB := n6_
      clear n0_ n1_ n2_ n3_ n4_ n5_ n6_
      (try clear hb)
      (try clear hb2)
      (try clear hk)
      (try clear hi)
      (try clear ho0)
      (try clear ho1)
      obtain ⟨Ao33, co33, eo33⟩ := Kd.R_slice HO21.out
      (first | subst eo33 | (injection eo33 with f1_ f2_ f3_; have f4_ := f1_.symm; have f5_ := f3_.symm; clear f1_ f2_ f3_; subst f4_; subst f5_))
      obtain ⟨Ao34, co34, eo34⟩ := Kd.R_slice HO24.out
      (first | subst eo34 | (injection eo34 with f1_ f2_ f3_; have f4_ := f1_.symm; have f5_ := f3_.symm; clear f1_ f2_ f3_; subst f4_; subst f5_))
      refine hK.out _ _ ⟨(blk_cell BK16.out 0).trans rfl, (blk_cell BK16.out 1).trans rfl, (blk_cell BK16.out 2).trans rfl, (blk_cell BK16.out 3).trans rfl, (blk_cell BK16.out 4).trans rfl, (blk_cell BK16.out 5).trans rfl, (blk_cell BK16.out 6).trans rfl, (blk_cell BK16.out 7).trans rfl, (blk_cell BK1.out 0).trans rfl, (blk_cell BK1.out 1).trans rfl, (blk_cell BK1.out 2).trans rfl, (blk_cell BK1.out 3).trans rfl, (blk_cell BK1.out 4).trans rfl, (blk_cell BK1.out 5).trans rfl, (blk_cell BK1.out 6).trans rfl, (blk_cell BK1.out 7).trans rfl⟩ (fun hHeld => ?_)
      clear hK K
      refine norm_ (a' := ?_) ?_ ?_
      rotate_left
      ·
       show Act.put _ (some 11) _ = _
       simp only [Act.put, List.setIfInBounds_toArray, List.set_cons_zero, List.set_cons_succ, i64_w, i32_w, IntKind.wrap_u32]
       rfl
      refine one_ (i := 3) (N := some 13) #[true, true, true, true, false, false, false, false, false, false, false, false, false, false, false] rfl rfl (one_of HT_.out (by kernel_rfl)) (by decide) (fun K hK => ?_)
      refine goes_ Try.func40 (by kernel_rfl) rfl #[.agg #[.int .u32 t17, .int .i64 t18, .slice Ao33 t19.length co33, .slice Ao34 t22.length co34, .int .u32 t25, .int .u32 t26, .int .i64 t27, .int .u32 t28], .agg #[.int .u32 t4, .int .i64 t5, .slice Ao28 t6.length co28, .slice Ao29 t9.length co29, .int .u32 t12, .int .u32 t13, .int .i64 t14, .int .u32 t15]] (by rfl) rfl rfl (by (try simp only [List.map_toArray, List.map_cons, List.map_nil]); first | done | rfl | (simp only [List.length_drop, List.length_take]; rfl)) ?_
      with_reducible refine (q13z.calls k t17 t18 _ _ t19 _ _ t22 t25 t26 t27 t28 t4 t5 _ _ t6 _ _ t9 t12 t13 t14 t15 t29 _ ?side1 ?side2 ?side3 ?side4 ?side5 ?side6 ?side7 ?side8 A12.out).mono ?_
      (case side1 => repeat (first | exact (Kd.R_reads' HO21.out).2.2 | (with_reducible refine Kd.C_alloc ?_ _) | (with_reducible refine Kd.C_drewN ?_ _) | (with_reducible refine Kd.C_drew ?_)))
      (case side2 => exact (Kd.R_reads' HO21.out).2.1)
      (case side3 => repeat (first | exact (Kd.R_reads' HO24.out).2.2 | (with_reducible refine Kd.C_alloc ?_ _) | (with_reducible refine Kd.C_drewN ?_ _) | (with_reducible refine Kd.C_drew ?_)))
      (case side4 => exact (Kd.R_reads' HO24.out).2.1)
      (case side5 => repeat (first | exact (Kd.R_reads' HO8.out).2.2 | (with_reducible refine Kd.C_alloc ?_ _) | (with_reducible refine Kd.C_drewN ?_ _) | (with_reducible refine Kd.C_drew ?_)))
      (case side6 => exact (Kd.R_reads' HO8.out).2.1)
      (case side7 => repeat (first | exact (Kd.R_reads' HO11.out).2.2 | (with_reducible refine Kd.C_alloc ?_ _) | (with_reducible refine Kd.C_drewN ?_ _) | (with_reducible refine Kd.C_drew ?_)))
      (case side8 => exact (Kd.R_reads' HO11.out).2.1)
      rintro e w35 ⟨rfl, hb⟩
      refine ⟨_, rfl, ?_⟩
      have n0_ := Aside0.mk (Kd.R_below (by (with_reducible repeat (first | apply Kd.R_alloc | apply Kd.R_drewN | apply Kd.R_drew)); exact HO8.out) hb)
      have n1_ := Aside0.mk (Kd.R_below (by (with_reducible repeat (first | apply Kd.R_alloc | apply Kd.R_drewN | apply Kd.R_drew)); exact HO11.out) hb)
      have n2_ := Aside0.mk (Kd.R_below (by (with_reducible repeat (first | apply Kd.R_alloc | apply Kd.R_drewN | apply Kd.R_drew)); exact HO21.out) hb)
      have n3_ := Aside0.mk (Kd.R_below (by (with_reducible repeat (first | apply Kd.R_alloc | apply Kd.R_drewN | apply Kd.R_drew)); exact HO24.out) hb)
      have n4_ := Aside0.mk (blk_below (g := gb1) (o := .cells #[.int .u32 a0_0, .int .i64 a0_1, .slice A0_2 l0_2.length c0_2, .slice A0_3 l0_3.length c0_3, .int .u32 a0_4, .int .u32 a0_5, .int .i64 a0_6, .int .u32 a0_7] 38 (0, 0)) (by (with_reducible repeat (first | refine blk_drewN ?_ _ | refine blk_drew ?_ | refine blk_alloc ?_ _)); exact BK1.out) hb)
      have n5_ := Aside0.mk (blk_below (g := gb16) (o := .cells #[.int .u32 t4, .int .i64 t5, .slice Ao28 t6.length co28, .slice Ao29 t9.length co29, .int .u32 t12, .int .u32 t13, .int .i64 t14, .int .u32 t15] 38 (0, 0)) (by (with_reducible repeat (first | refine blk_drewN ?_ _ | refine blk_drew ?_ | refine blk_alloc ?_ _)); exact BK16.out) hb)
      have n6_ := Aside0.mk (below_step (by repeat (first | (with_reducible first | exact HB.out | apply below_alloc | apply pw_below_drewN | apply below_drew1 | refine below_set ?_ GE1.out | refine below_set ?_ GE16.out) | exact HB.out)) hb)
      clear HO8
      clear HO11
      clear HO21
      clear HO24
      clear BK1
      clear BK16
      clear HB
      have HO8 := n0_
      have HO11 := n1_
      have HO21 := n2_
      have HO24 := n3_
      have BK1 := n4_
      have BK16 := n5_
      have HB := n6_
      clear n0_ n1_ n2_ n3_ n4_ n5_ n6_
      (try clear hb)
      (try clear hb2)
      (try clear hk)
      (try clear hi)
      refine hK.out _ _ ⟨(blk_cell BK16.out 0).trans rfl, (blk_cell BK16.out 1).trans rfl, (blk_cell BK16.out 2).trans rfl, (blk_cell BK16.out 3).trans rfl, (blk_cell BK16.out 4).trans rfl, (blk_cell BK16.out 5).trans rfl, (blk_cell BK16.out 6).trans rfl, (blk_cell BK16.out 7).trans rfl, (blk_cell BK1.out 0).trans rfl, (blk_cell BK1.out 1).trans rfl, (blk_cell BK1.out 2).trans rfl, (blk_cell BK1.out 3).trans rfl, (blk_cell BK1.out 4).trans rfl, (blk_cell BK1.out 5).trans rfl, (blk_cell BK1.out 6).trans rfl, (blk_cell BK1.out 7).trans rfl⟩ (fun hHeld => ?_)
      clear hK K
      refine norm_ (a' := ?_) ?_ ?_
      rotate_left
      ·
       show Act.put _ (some 13) _ = _
       simp only [Act.put, List.setIfInBounds_toArray, List.set_cons_zero, List.set_cons_succ, i64_w, i32_w, IntKind.wrap_u32]
       rfl
      refine pure_ (i := 4) (N := some 14) (v := ?_) (a' := ?_) #[true, true, true, true, true, false, false, false, false, false, false, false, false, false, false] rfl rfl (any_of HT_.out (by kernel_rfl)) (fun _ _ _ h => h) (Or.inl ⟨by rfl, ?_⟩) ?_ ?_
      rotate_left
      ·
       intro w'
       go_simp
       with_reducible rfl
      rotate_left
      ·
       simp only [Act.put, List.setIfInBounds_toArray, List.set_cons_zero, List.set_cons_succ, i64_w, i32_w, IntKind.wrap_u32]
       rfl
      refine pure_ (i := 5) (N := some 15) (v := ?_) (a' := ?_) #[true, true, true, true, true, true, false, false, false, false, false, false, false, false, false] rfl rfl (any_of HT_.out (by kernel_rfl)) (fun _ _ _ h => h) (Or.inl ⟨by rfl, ?_⟩) ?_ ?_
      rotate_left
      ·
       intro w'
       go_simp
       with_reducible rfl
      rotate_left
      ·
       simp only [Act.put, List.setIfInBounds_toArray, List.set_cons_zero, List.set_cons_succ, i64_w, i32_w, IntKind.wrap_u32]
       rfl
      refine take_ (i := 6) (N := some 16) (v := ?_) (a' := ?_) #[true, true, true, true, true, true, true, false, false, false, false, false, false, false, false] rfl rfl (take_ofW HT_.out HW_.out (by kernel_rfl)) (fun _ _ _ h => h) (Or.inl ⟨by rfl, ?_⟩) hHeld ?_ ?_
      rotate_left
      ·
       rintro w' ⟨s0, s1, s2, s3, s4, s5, s6, s7, s8, s9, s10, s11, s12, s13, s14, s15⟩
       go_simp
       with_reducible rfl
      rotate_left
      ·
       simp only [Act.put, List.setIfInBounds_toArray, List.set_cons_zero, List.set_cons_succ, i64_w, i32_w, IntKind.wrap_u32]
       rfl
      refine one_ (i := 7) (N := some 17) #[true, true, true, true, true, true, true, true, false, false, false, false, false, false, false] rfl rfl (one_of HT_.out (by kernel_rfl)) (by decide) (fun K hK => ?_)
      refine goes_ Try.func30 (by kernel_rfl) rfl #[.agg #[.int .u32 a0_0, .int .i64 a0_1, .slice A0_2 l0_2.length c0_2, .slice A0_3 l0_3.length c0_3, .int .u32 a0_4, .int .u32 a0_5, .int .i64 a0_6, .int .u32 a0_7]] (by rfl) rfl rfl (by (try simp only [List.map_toArray, List.map_cons, List.map_nil]); first | done | rfl | (simp only [List.length_drop, List.length_take]; rfl)) ?_
      with_reducible refine (q4z.calls k a0_0 a0_1 _ _ l0_2 _ _ l0_3 a0_4 a0_5 a0_6 a0_7 true _ ?side1 ?side2 ?side3 ?side4 A14.out).mono ?_
      (case side1 => repeat (first | exact (Kd.C_below HR0_2.out HB.out) | (with_reducible refine Kd.C_alloc ?_ _) | (with_reducible refine Kd.C_drewN ?_ _) | (with_reducible refine Kd.C_drew ?_)))
      (case side2 => exact HC0_2.out)
      (case side3 => repeat (first | exact (Kd.C_below HR0_3.out HB.out) | (with_reducible refine Kd.C_alloc ?_ _) | (with_reducible refine Kd.C_drewN ?_ _) | (with_reducible refine Kd.C_drew ?_)))
      (case side4 => exact HC0_3.out)
      rintro e w36 ⟨rfl, hb⟩
      refine ⟨_, rfl, ?_⟩
      have n0_ := Aside0.mk (Kd.R_below (by (with_reducible repeat (first | apply Kd.R_alloc | apply Kd.R_drewN | apply Kd.R_drew)); exact HO8.out) hb)
      have n1_ := Aside0.mk (Kd.R_below (by (with_reducible repeat (first | apply Kd.R_alloc | apply Kd.R_drewN | apply Kd.R_drew)); exact HO11.out) hb)
      have n2_ := Aside0.mk (Kd.R_below (by (with_reducible repeat (first | apply Kd.R_alloc | apply Kd.R_drewN | apply Kd.R_drew)); exact HO21.out) hb)
      have n3_ := Aside0.mk (Kd.R_below (by (with_reducible repeat (first | apply Kd.R_alloc | apply Kd.R_drewN | apply Kd.R_drew)); exact HO24.out) hb)
      have n4_ := Aside0.mk (blk_below (g := gb1) (o := .cells #[.int .u32 a0_0, .int .i64 a0_1, .slice A0_2 l0_2.length c0_2, .slice A0_3 l0_3.length c0_3, .int .u32 a0_4, .int .u32 a0_5, .int .i64 a0_6, .int .u32 a0_7] 38 (0, 0)) (by (with_reducible repeat (first | refine blk_drewN ?_ _ | refine blk_drew ?_ | refine blk_alloc ?_ _)); exact BK1.out) hb)
      have n5_ := Aside0.mk (blk_below (g := gb16) (o := .cells #[.int .u32 t4, .int .i64 t5, .slice Ao28 t6.length co28, .slice Ao29 t9.length co29, .int .u32 t12, .int .u32 t13, .int .i64 t14, .int .u32 t15] 38 (0, 0)) (by (with_reducible repeat (first | refine blk_drewN ?_ _ | refine blk_drew ?_ | refine blk_alloc ?_ _)); exact BK16.out) hb)
      have n6_ := Aside0.mk (below_step (by repeat (first | (with_reducible first | exact HB.out | apply below_alloc | apply pw_below_drewN | apply below_drew1 | refine below_set ?_ GE1.out | refine below_set ?_ GE16.out) | exact HB.out)) hb)
      clear HO8
      clear HO11
      clear HO21
      clear HO24
      clear BK1
      clear BK16
      clear HB
      have HO8 := n0_
      have HO11 := n1_
      have HO21 := n2_
      have HO24 := n3_
      have BK1 := n4_
      have BK16 := n5_
      have HB := n6_
      clear n0_ n1_ n2_ n3_ n4_ n5_ n6_
      (try clear hb)
      (try clear hb2)
      (try clear hk)
      (try clear hi)
      refine hK.out _ _ ⟨(blk_cell BK16.out 0).trans rfl, (blk_cell BK16.out 1).trans rfl, (blk_cell BK16.out 2).trans rfl, (blk_cell BK16.out 3).trans rfl, (blk_cell BK16.out 4).trans rfl, (blk_cell BK16.out 5).trans rfl, (blk_cell BK16.out 6).trans rfl, (blk_cell BK16.out 7).trans rfl, (blk_cell BK1.out 0).trans rfl, (blk_cell BK1.out 1).trans rfl, (blk_cell BK1.out 2).trans rfl, (blk_cell BK1.out 3).trans rfl, (blk_cell BK1.out 4).trans rfl, (blk_cell BK1.out 5).trans rfl, (blk_cell BK1.out 6).trans rfl, (blk_cell BK1.out 7).trans rfl⟩ (fun hHeld => ?_)
      clear hK K
      refine norm_ (a' := ?_) ?_ ?_
      rotate_left
      ·
       show Act.put _ (some 17) _ = _
       simp only [Act.put, List.setIfInBounds_toArray, List.set_cons_zero, List.set_cons_succ, i64_w, i32_w, IntKind.wrap_u32]
       rfl
      refine pure_ (i := 8) (N := some 18) (v := ?_) (a' := ?_) #[true, true, true, true, true, true, true, true, true, false, false, false, false, false, false] rfl rfl (any_of HT_.out (by kernel_rfl)) (fun _ _ _ h => h) (Or.inl ⟨by rfl, ?_⟩) ?_ ?_
      rotate_left
      ·
       intro w'
       go_simp
       with_reducible rfl
      rotate_left
      ·
       simp only [Act.put, List.setIfInBounds_toArray, List.set_cons_zero, List.set_cons_succ, i64_w, i32_w, IntKind.wrap_u32]
       rfl
      refine take_ (i := 9) (N := some 19) (v := ?_) (a' := ?_) #[true, true, true, true, true, true, true, true, true, true, false, false, false, false, false] rfl rfl (take_ofW HT_.out HW_.out (by kernel_rfl)) (fun _ _ _ h => h) (Or.inl ⟨by rfl, ?_⟩) hHeld ?_ ?_
      rotate_left
      ·
       rintro w' ⟨s0, s1, s2, s3, s4, s5, s6, s7, s8, s9, s10, s11, s12, s13, s14, s15⟩
       go_simp
       with_reducible rfl
      rotate_left
      ·
       simp only [Act.put, List.setIfInBounds_toArray, List.set_cons_zero, List.set_cons_succ, i64_w, i32_w, IntKind.wrap_u32]
       rfl
      refine take_ (i := 10) (N := some 20) (v := ?_) (a' := ?_) #[true, true, true, true, true, true, true, true, true, true, true, false, false, false, false] rfl rfl (take_ofW HT_.out HW_.out (by kernel_rfl)) (fun _ _ _ h => h) (Or.inl ⟨by rfl, ?_⟩) hHeld ?_ ?_
      rotate_left
      ·
       rintro w' ⟨s0, s1, s2, s3, s4, s5, s6, s7, s8, s9, s10, s11, s12, s13, s14, s15⟩
       go_simp
       with_reducible rfl
      rotate_left
      ·
       simp only [Act.put, List.setIfInBounds_toArray, List.set_cons_zero, List.set_cons_succ, i64_w, i32_w, IntKind.wrap_u32]
       rfl
      refine one_ (i := 11) (N := some 21) #[true, true, true, true, true, true, true, true, true, true, true, true, false, false, false] rfl rfl (one_of HT_.out (by kernel_rfl)) (by decide) (fun K hK => ?_)
      refine goes_ Try.func40 (by kernel_rfl) rfl #[.agg #[.int .u32 t4, .int .i64 t5, .slice Ao28 t6.length co28, .slice Ao29 t9.length co29, .int .u32 t12, .int .u32 t13, .int .i64 t14, .int .u32 t15], .agg #[.int .u32 a0_0, .int .i64 a0_1, .slice A0_2 l0_2.length c0_2, .slice A0_3 l0_3.length c0_3, .int .u32 a0_4, .int .u32 a0_5, .int .i64 a0_6, .int .u32 a0_7]] (by rfl) rfl rfl (by (try simp only [List.map_toArray, List.map_cons, List.map_nil]); first | done | rfl | (simp only [List.length_drop, List.length_take]; rfl)) ?_
      with_reducible refine (q13z.calls k t4 t5 _ _ t6 _ _ t9 t12 t13 t14 t15 a0_0 a0_1 _ _ l0_2 _ _ l0_3 a0_4 a0_5 a0_6 a0_7 t31 _ ?side1 ?side2 ?side3 ?side4 ?side5 ?side6 ?side7 ?side8 A16.out).mono ?_
      (case side1 => repeat (first | exact (Kd.R_reads' HO8.out).2.2 | (with_reducible refine Kd.C_alloc ?_ _) | (with_reducible refine Kd.C_drewN ?_ _) | (with_reducible refine Kd.C_drew ?_)))
      (case side2 => exact (Kd.R_reads' HO8.out).2.1)
      (case side3 => repeat (first | exact (Kd.R_reads' HO11.out).2.2 | (with_reducible refine Kd.C_alloc ?_ _) | (with_reducible refine Kd.C_drewN ?_ _) | (with_reducible refine Kd.C_drew ?_)))
      (case side4 => exact (Kd.R_reads' HO11.out).2.1)
      (case side5 => repeat (first | exact (Kd.C_below HR0_2.out HB.out) | (with_reducible refine Kd.C_alloc ?_ _) | (with_reducible refine Kd.C_drewN ?_ _) | (with_reducible refine Kd.C_drew ?_)))
      (case side6 => exact HC0_2.out)
      (case side7 => repeat (first | exact (Kd.C_below HR0_3.out HB.out) | (with_reducible refine Kd.C_alloc ?_ _) | (with_reducible refine Kd.C_drewN ?_ _) | (with_reducible refine Kd.C_drew ?_)))
      (case side8 => exact HC0_3.out)
      rintro e w37 ⟨rfl, hb⟩
      refine ⟨_, rfl, ?_⟩
      have n0_ := Aside0.mk (Kd.R_below (by (with_reducible repeat (first | apply Kd.R_alloc | apply Kd.R_drewN | apply Kd.R_drew)); exact HO8.out) hb)
      have n1_ := Aside0.mk (Kd.R_below (by (with_reducible repeat (first | apply Kd.R_alloc | apply Kd.R_drewN | apply Kd.R_drew)); exact HO11.out) hb)
      have n2_ := Aside0.mk (Kd.R_below (by (with_reducible repeat (first | apply Kd.R_alloc | apply Kd.R_drewN | apply Kd.R_drew)); exact HO21.out) hb)
      have n3_ := Aside0.mk (Kd.R_below (by (with_reducible repeat (first | apply Kd.R_alloc | apply Kd.R_drewN | apply Kd.R_drew)); exact HO24.out) hb)
      have n4_ := Aside0.mk (blk_below (g := gb1) (o := .cells #[.int .u32 a0_0, .int .i64 a0_1, .slice A0_2 l0_2.length c0_2, .slice A0_3 l0_3.length c0_3, .int .u32 a0_4, .int .u32 a0_5, .int .i64 a0_6, .int .u32 a0_7] 38 (0, 0)) (by (with_reducible repeat (first | refine blk_drewN ?_ _ | refine blk_drew ?_ | refine blk_alloc ?_ _)); exact BK1.out) hb)
      have n5_ := Aside0.mk (blk_below (g := gb16) (o := .cells #[.int .u32 t4, .int .i64 t5, .slice Ao28 t6.length co28, .slice Ao29 t9.length co29, .int .u32 t12, .int .u32 t13, .int .i64 t14, .int .u32 t15] 38 (0, 0)) (by (with_reducible repeat (first | refine blk_drewN ?_ _ | refine blk_drew ?_ | refine blk_alloc ?_ _)); exact BK16.out) hb)
      have n6_ := Aside0.mk (below_step (by repeat (first | (with_reducible first | exact HB.out | apply below_alloc | apply pw_below_drewN | apply below_drew1 | refine below_set ?_ GE1.out | refine below_set ?_ GE16.out) | exact HB.out)) hb)
      clear HO8
      clear HO11
      clear HO21
      clear HO24
      clear BK1
      clear BK16
      clear HB
      have HO8 := n0_
      have HO11 := n1_
      have HO21 := n2_
      have HO24 := n3_
      have BK1 := n4_
      have BK16 := n5_
      have HB := n6_
      clear n0_ n1_ n2_ n3_ n4_ n5_ n6_
      (try clear hb)
      (try clear hb2)
      (try clear hk)
      (try clear hi)
      refine hK.out _ _ ⟨(blk_cell BK16.out 0).trans rfl, (blk_cell BK16.out 1).trans rfl, (blk_cell BK16.out 2).trans rfl, (blk_cell BK16.out 3).trans rfl, (blk_cell BK16.out 4).trans rfl, (blk_cell BK16.out 5).trans rfl, (blk_cell BK16.out 6).trans rfl, (blk_cell BK16.out 7).trans rfl, (blk_cell BK1.out 0).trans rfl, (blk_cell BK1.out 1).trans rfl, (blk_cell BK1.out 2).trans rfl, (blk_cell BK1.out 3).trans rfl, (blk_cell BK1.out 4).trans rfl, (blk_cell BK1.out 5).trans rfl, (blk_cell BK1.out 6).trans rfl, (blk_cell BK1.out 7).trans rfl⟩ (fun hHeld => ?_)
      clear hK K
      refine norm_ (a' := ?_) ?_ ?_
      rotate_left
      ·
       show Act.put _ (some 21) _ = _
       simp only [Act.put, List.setIfInBounds_toArray, List.set_cons_zero, List.set_cons_succ, i64_w, i32_w, IntKind.wrap_u32]
       rfl
      refine pure_ (i := 12) (N := some 22) (v := ?_) (a' := ?_) #[true, true, true, true, true, true, true, true, true, true, true, true, true, false, false] rfl rfl (any_of HT_.out (by kernel_rfl)) (fun _ _ _ h => h) (Or.inl ⟨by rfl, ?_⟩) ?_ ?_
      rotate_left
      ·
       intro w'
       go_simp
       with_reducible rfl
      rotate_left
      ·
       simp only [Act.put, List.setIfInBounds_toArray, List.set_cons_zero, List.set_cons_succ, i64_w, i32_w, IntKind.wrap_u32]
       rfl
      refine pure_ (i := 13) (N := some 23) (v := ?_) (a' := ?_) #[true, true, true, true, true, true, true, true, true, true, true, true, true, true, false] rfl rfl (any_of HT_.out (by kernel_rfl)) (fun _ _ _ h => h) (Or.inl ⟨by rfl, ?_⟩) ?_ ?_
      rotate_left
      ·
       intro w'
       go_simp
       with_reducible rfl
      rotate_left
      ·
       simp only [Act.put, List.setIfInBounds_toArray, List.set_cons_zero, List.set_cons_succ, i64_w, i32_w, IntKind.wrap_u32]
       rfl
      refine pure_ (i := 14) (N := some 24) (v := ?_) (a' := ?_) #[true, true, true, true, true, true, true, true, true, true, true, true, true, true, true] rfl rfl (any_of HT_.out (by kernel_rfl)) (fun _ _ _ h => h) (Or.inl ⟨by rfl, ?_⟩) ?_ ?_
      rotate_left
      ·
       intro w'
       go_simp
       with_reducible rfl
      rotate_left
      ·
       simp only [Act.put, List.setIfInBounds_toArray, List.set_cons_zero, List.set_cons_succ, i64_w, i32_w, IntKind.wrap_u32]
       rfl
      refine done_ (done_of HT_.out (by kernel_rfl)) ?_
      have hcz38_0 : w37.cell? ⟨gb16, 0, none⟩ = some (.int .u32 t4) := (blk_cell BK16.out 0).trans rfl
      have hcz38_1 : w37.cell? ⟨gb16, 1, none⟩ = some (.int .i64 t5) := (blk_cell BK16.out 1).trans rfl
      have hcz38_2 : w37.cell? ⟨gb16, 2, none⟩ = some (.slice Ao28 t6.length co28) := (blk_cell BK16.out 2).trans rfl
      have hcz38_3 : w37.cell? ⟨gb16, 3, none⟩ = some (.slice Ao29 t9.length co29) := (blk_cell BK16.out 3).trans rfl
      have hcz38_4 : w37.cell? ⟨gb16, 4, none⟩ = some (.int .u32 t12) := (blk_cell BK16.out 4).trans rfl
      have hcz38_5 : w37.cell? ⟨gb16, 5, none⟩ = some (.int .u32 t13) := (blk_cell BK16.out 5).trans rfl
      have hcz38_6 : w37.cell? ⟨gb16, 6, none⟩ = some (.int .i64 t14) := (blk_cell BK16.out 6).trans rfl
      have hcz38_7 : w37.cell? ⟨gb16, 7, none⟩ = some (.int .u32 t15) := (blk_cell BK16.out 7).trans rfl
      have hfz38_0 := blk_frozen BK16.out 0
      have hfz38_1 := blk_frozen BK16.out 1
      have hfz38_2 := blk_frozen BK16.out 2
      have hfz38_3 := blk_frozen BK16.out 3
      have hfz38_4 := blk_frozen BK16.out 4
      have hfz38_5 := blk_frozen BK16.out 5
      have hfz38_6 := blk_frozen BK16.out 6
      have hfz38_7 := blk_frozen BK16.out 7
      try go_wp2
      have n0_ : Aside0 (Kd.R (Kd.int .u32) 33 ((w37.setCell ⟨gb16, 6, none⟩ (.int .i64 1)).setCell ⟨gb16, 2, none⟩ (.slice none 0 0)) w.heap.size (fun k_ => some k_ ≠ (.slice Ao29 t9.length co29 : Value).ownBlock ∧ some k_ ≠ (.slice Ao33 t19.length co33 : Value).ownBlock ∧ some k_ ≠ (.slice Ao34 t22.length co34 : Value).ownBlock) (.slice Ao28 t6.length co28) t6) := ⟨by (with_reducible repeat (first | apply Kd.R_alloc | apply Kd.R_drewN | apply Kd.R_drew)); exact Kd.R_mono (Kd.R_far (p := ⟨gb16, 2, none⟩) (Kd.R_far (p := ⟨gb16, 6, none⟩) (Kd.R_types HO8.out BK16.out (by decide)) (fun _ hk => hk.2) (.int .i64 1)) (fun _ hk => hk.2) (.slice none 0 0)) (fun _ hk => ⟨hk.1.1.1, ⟨hk.1.1.2, hk.1.2⟩⟩)⟩
      have n1_ : Aside0 (Kd.R (Kd.int .u32) 33 ((w37.setCell ⟨gb16, 6, none⟩ (.int .i64 1)).setCell ⟨gb16, 2, none⟩ (.slice none 0 0)) w.heap.size (fun k_ => some k_ ≠ (.slice Ao28 t6.length co28 : Value).ownBlock ∧ some k_ ≠ (.slice Ao33 t19.length co33 : Value).ownBlock ∧ some k_ ≠ (.slice Ao34 t22.length co34 : Value).ownBlock) (.slice Ao29 t9.length co29) t9) := ⟨by (with_reducible repeat (first | apply Kd.R_alloc | apply Kd.R_drewN | apply Kd.R_drew)); exact Kd.R_mono (Kd.R_far (p := ⟨gb16, 2, none⟩) (Kd.R_far (p := ⟨gb16, 6, none⟩) (Kd.R_types HO11.out BK16.out (by decide)) (fun _ hk => hk.2) (.int .i64 1)) (fun _ hk => hk.2) (.slice none 0 0)) (fun _ hk => ⟨hk.1.1.1, ⟨hk.1.1.2, hk.1.2⟩⟩)⟩
      have n2_ : Aside0 (Kd.R (Kd.int .u32) 33 ((w37.setCell ⟨gb16, 6, none⟩ (.int .i64 1)).setCell ⟨gb16, 2, none⟩ (.slice none 0 0)) w.heap.size (fun k_ => some k_ ≠ (.slice Ao28 t6.length co28 : Value).ownBlock ∧ some k_ ≠ (.slice Ao29 t9.length co29 : Value).ownBlock ∧ some k_ ≠ (.slice Ao34 t22.length co34 : Value).ownBlock) (.slice Ao33 t19.length co33) t19) := ⟨by (with_reducible repeat (first | apply Kd.R_alloc | apply Kd.R_drewN | apply Kd.R_drew)); exact Kd.R_mono (Kd.R_far (p := ⟨gb16, 2, none⟩) (Kd.R_far (p := ⟨gb16, 6, none⟩) (Kd.R_types HO21.out BK16.out (by decide)) (fun _ hk => hk.2) (.int .i64 1)) (fun _ hk => hk.2) (.slice none 0 0)) (fun _ hk => ⟨hk.1.1.2, ⟨hk.1.2, hk.1.1.1⟩⟩)⟩
      have n3_ : Aside0 (Kd.R (Kd.int .u32) 33 ((w37.setCell ⟨gb16, 6, none⟩ (.int .i64 1)).setCell ⟨gb16, 2, none⟩ (.slice none 0 0)) w.heap.size (fun k_ => some k_ ≠ (.slice Ao28 t6.length co28 : Value).ownBlock ∧ some k_ ≠ (.slice Ao29 t9.length co29 : Value).ownBlock ∧ some k_ ≠ (.slice Ao33 t19.length co33 : Value).ownBlock) (.slice Ao34 t22.length co34) t22) := ⟨by (with_reducible repeat (first | apply Kd.R_alloc | apply Kd.R_drewN | apply Kd.R_drew)); exact Kd.R_mono (Kd.R_far (p := ⟨gb16, 2, none⟩) (Kd.R_far (p := ⟨gb16, 6, none⟩) (Kd.R_types HO24.out BK16.out (by decide)) (fun _ hk => hk.2) (.int .i64 1)) (fun _ hk => hk.2) (.slice none 0 0)) (fun _ hk => ⟨hk.1.1.2, ⟨hk.1.2, hk.1.1.1⟩⟩)⟩
      have n4_ : Aside0 (((w37.setCell ⟨gb16, 6, none⟩ (.int .i64 1)).setCell ⟨gb16, 2, none⟩ (.slice none 0 0)).heap[gb1]? = some (.cells #[.int .u32 a0_0, .int .i64 a0_1, .slice A0_2 l0_2.length c0_2, .slice A0_3 l0_3.length c0_3, .int .u32 a0_4, .int .u32 a0_5, .int .i64 a0_6, .int .u32 a0_7] 38 (0, 0))) := ⟨by (with_reducible repeat (first | refine blk_drewN ?_ _ | refine blk_drew ?_ | refine blk_alloc ?_ _)); refine blk_far ?_ NB1_16.out _; (with_reducible repeat (first | refine blk_drewN ?_ _ | refine blk_drew ?_ | refine blk_alloc ?_ _)); refine blk_far ?_ NB1_16.out _; (with_reducible repeat (first | refine blk_drewN ?_ _ | refine blk_drew ?_ | refine blk_alloc ?_ _)); exact BK1.out⟩
      have n5_ : Aside0 (((w37.setCell ⟨gb16, 6, none⟩ (.int .i64 1)).setCell ⟨gb16, 2, none⟩ (.slice none 0 0)).heap[gb16]? = some (.cells #[.int .u32 t4, .int .i64 t5, .slice none 0 0, .slice Ao29 t9.length co29, .int .u32 t12, .int .u32 t13, .int .i64 1, .int .u32 t15] 38 (0, 0))) := ⟨by (with_reducible repeat (first | refine blk_drewN ?_ _ | refine blk_drew ?_ | refine blk_alloc ?_ _)); refine blk_put (cs := #[.int .u32 t4, .int .i64 t5, .slice Ao28 t6.length co28, .slice Ao29 t9.length co29, .int .u32 t12, .int .u32 t13, .int .i64 1, .int .u32 t15]) ?_ 2 _ rfl; (with_reducible repeat (first | refine blk_drewN ?_ _ | refine blk_drew ?_ | refine blk_alloc ?_ _)); refine blk_put (cs := #[.int .u32 t4, .int .i64 t5, .slice Ao28 t6.length co28, .slice Ao29 t9.length co29, .int .u32 t12, .int .u32 t13, .int .i64 t14, .int .u32 t15]) ?_ 6 _ rfl; (with_reducible repeat (first | refine blk_drewN ?_ _ | refine blk_drew ?_ | refine blk_alloc ?_ _)); exact BK16.out⟩
      have n6_ : Aside0 (Below w.heap.size w ((w37.setCell ⟨gb16, 6, none⟩ (.int .i64 1)).setCell ⟨gb16, 2, none⟩ (.slice none 0 0))) := ⟨by repeat (first | (with_reducible first | exact HB.out | apply below_alloc | apply pw_below_drewN | apply below_drew1 | refine below_set ?_ GE1.out | refine below_set ?_ GE16.out) | exact HB.out)⟩
      (try clear HO8)
      (try clear HO11)
      (try clear HO21)
      (try clear HO24)
      (try clear BK1)
      (try clear BK16)
      (try clear HB)
      generalize ((w37.setCell ⟨gb16, 6, none⟩ (.int .i64 1)).setCell ⟨gb16, 2, none⟩ (.slice none 0 0)) = w39 at n0_ n1_ n2_ n3_ n4_ n5_ n6_ ⊢
      have HO8 := n0_
      have HO11 := n1_
      have HO21 := n2_
      have HO24 := n3_
      have BK1 := n4_
      have BK16 := n5_
      have HB := n6_
      clear n0_ n1_ n2_ n3_ n4_ n5_ n6_
      have n0_ := Aside0.mk (Kd.R_drew HO8.out)
      have n1_ := Aside0.mk (Kd.R_drew HO11.out)
      have n2_ := Aside0.mk (Kd.R_drew HO21.out)
      have n3_ := Aside0.mk (Kd.R_drew HO24.out)
      have n4_ := Aside0.mk (blk_drew BK1.out)
      have n5_ := Aside0.mk (blk_drew BK16.out)
      have n6_ := Aside0.mk (below_drew1 HB.out)
      clear HO8
      clear HO11
      clear HO21
      clear HO24
      clear BK1
      clear BK16
      clear HB
      have HO8 := n0_
      have HO11 := n1_
      have HO21 := n2_
      have HO24 := n3_
      have BK1 := n4_
      have BK16 := n5_
      have HB := n6_
      clear n0_ n1_ n2_ n3_ n4_ n5_ n6_
      refine start_ (n := 8) (S := fun w' => w'.cell? ⟨gb16, 0, none⟩ = some (.int .u32 t4) ∧ w'.cell? ⟨gb16, 1, none⟩ = some (.int .i64 t5) ∧ w'.cell? ⟨gb16, 2, none⟩ = some (.slice none 0 0) ∧ w'.cell? ⟨gb16, 3, none⟩ = some (.slice Ao29 t9.length co29) ∧ w'.cell? ⟨gb16, 4, none⟩ = some (.int .u32 t12) ∧ w'.cell? ⟨gb16, 5, none⟩ = some (.int .u32 t13) ∧ w'.cell? ⟨gb16, 6, none⟩ = some (.int .i64 1) ∧ w'.cell? ⟨gb16, 7, none⟩ = some (.int .u32 t15)) (ds := []) #[false, false, false, false, false, false, false, false] (by kernel_rfl) rfl rfl ⟨(blk_cell BK16.out 0).trans rfl, (blk_cell BK16.out 1).trans rfl, (blk_cell BK16.out 2).trans rfl, (blk_cell BK16.out 3).trans rfl, (blk_cell BK16.out 4).trans rfl, (blk_cell BK16.out 5).trans rfl, (blk_cell BK16.out 6).trans rfl, (blk_cell BK16.out 7).trans rfl⟩ (fun hHeld => ?_); refine with_tabW q17z.tab10 q17z.bits10 (fun HT_ HW_ => ?_)
      generalize w39.drew = w40 at HO8 HO11 HO21 HO24 BK1 BK16 HB hHeld ⊢
      refine pure_ (i := 2) (N := some 29) (v := ?_) (a' := ?_) #[false, false, true, false, false, false, false, false] rfl rfl (any_of HT_.out (by kernel_rfl)) (fun _ _ _ h => h) (Or.inl ⟨by rfl, ?_⟩) ?_ ?_
      rotate_left
      ·
       intro w'
       go_simp
       with_reducible rfl
      rotate_left
      ·
       simp only [Act.put, List.setIfInBounds_toArray, List.set_cons_zero, List.set_cons_succ, i64_w, i32_w, IntKind.wrap_u32]
       rfl
      refine take_ (i := 0) (N := some 27) (v := ?_) (a' := ?_) #[true, false, true, false, false, false, false, false] rfl rfl (take_ofW HT_.out HW_.out (by kernel_rfl)) (fun _ _ _ h => h) (Or.inl ⟨by rfl, ?_⟩) hHeld ?_ ?_
      rotate_left
      ·
       rintro w' ⟨s0, s1, s2, s3, s4, s5, s6, s7⟩
       go_simp
       with_reducible rfl
      rotate_left
      ·
       simp only [Act.put, List.setIfInBounds_toArray, List.set_cons_zero, List.set_cons_succ, i64_w, i32_w, IntKind.wrap_u32]
       rfl
      refine take_ (i := 3) (N := some 30) (v := ?_) (a' := ?_) #[true, false, true, true, false, false, false, false] rfl rfl (take_ofW HT_.out HW_.out (by kernel_rfl)) (fun _ _ _ h => h) (Or.inl ⟨by rfl, ?_⟩) hHeld ?_ ?_
      rotate_left
      ·
       rintro w' ⟨s0, s1, s2, s3, s4, s5, s6, s7⟩
       go_simp
       with_reducible rfl
      rotate_left
      ·
       simp only [Act.put, List.setIfInBounds_toArray, List.set_cons_zero, List.set_cons_succ, i64_w, i32_w, IntKind.wrap_u32]
       rfl
      refine pure_ (i := 4) (N := some 31) (v := ?_) (a' := ?_) #[true, false, true, true, true, false, false, false] rfl rfl (any_of HT_.out (by kernel_rfl)) (fun _ _ _ h => h) (Or.inl ⟨by rfl, ?_⟩) ?_ ?_
      rotate_left
      ·
       intro w'
       go_simp
       with_reducible rfl
      rotate_left
      ·
       simp only [Act.put, List.setIfInBounds_toArray, List.set_cons_zero, List.set_cons_succ, i64_w, i32_w, IntKind.wrap_u32]
       rfl
      refine pure_ (i := 5) (N := some 32) (v := ?_) (a' := ?_) #[true, false, true, true, true, true, false, false] rfl rfl (any_of HT_.out (by kernel_rfl)) (fun _ _ _ h => h) (Or.inl ⟨by rfl, ?_⟩) ?_ ?_
      rotate_left
      ·
       intro w'
       go_simp
       with_reducible rfl
      rotate_left
      ·
       simp only [Act.put, List.setIfInBounds_toArray, List.set_cons_zero, List.set_cons_succ, i64_w, i32_w, IntKind.wrap_u32]
       rfl
      refine one_ (i := 1) (N := some 28) #[true, true, true, true, true, true, false, false] rfl rfl (one_of HT_.out (by kernel_rfl)) (by decide) (fun K hK => ?_)
      refine goes_ Try.func30 (by kernel_rfl) rfl #[.agg #[.int .u32 t4, .int .i64 t5, .slice none 0 0, .slice Ao29 t9.length co29, .int .u32 t12, .int .u32 t13, .int .i64 1, .int .u32 t15]] (by rfl) rfl rfl (by (try simp only [List.map_toArray, List.map_cons, List.map_nil]); first | done | rfl | (simp only [List.length_drop, List.length_take]; rfl)) ?_
      refine (q4z.calls k t4 t5 _ _ ([] : List Int) _ _ t9 t12 t13 1 t15 t32 _ ?side1 ?side2 ?side3 ?side4 A18.out).mono ?_
      (case side1 => exact Kd.C_nil _ _)
      (case side2 => exact Nat.le_refl _)
      (case side3 => repeat (first | exact (Kd.R_reads' HO11.out).2.2 | (with_reducible refine Kd.C_alloc ?_ _) | (with_reducible refine Kd.C_drewN ?_ _) | (with_reducible refine Kd.C_drew ?_)))
      (case side4 => exact (Kd.R_reads' HO11.out).2.1)
      rintro e w41 ⟨rfl, hb⟩
      refine ⟨_, rfl, ?_⟩
      have n0_ := Aside0.mk (Kd.R_below (by (with_reducible repeat (first | apply Kd.R_alloc | apply Kd.R_drewN | apply Kd.R_drew)); exact HO8.out) hb)
      have n1_ := Aside0.mk (Kd.R_below (by (with_reducible repeat (first | apply Kd.R_alloc | apply Kd.R_drewN | apply Kd.R_drew)); exact HO11.out) hb)
      have n2_ := Aside0.mk (Kd.R_below (by (with_reducible repeat (first | apply Kd.R_alloc | apply Kd.R_drewN | apply Kd.R_drew)); exact HO21.out) hb)
      have n3_ := Aside0.mk (Kd.R_below (by (with_reducible repeat (first | apply Kd.R_alloc | apply Kd.R_drewN | apply Kd.R_drew)); exact HO24.out) hb)
      have n4_ := Aside0.mk (blk_below (g := gb1) (o := .cells #[.int .u32 a0_0, .int .i64 a0_1, .slice A0_2 l0_2.length c0_2, .slice A0_3 l0_3.length c0_3, .int .u32 a0_4, .int .u32 a0_5, .int .i64 a0_6, .int .u32 a0_7] 38 (0, 0)) (by (with_reducible repeat (first | refine blk_drewN ?_ _ | refine blk_drew ?_ | refine blk_alloc ?_ _)); exact BK1.out) hb)
      have n5_ := Aside0.mk (blk_below (g := gb16) (o := .cells #[.int .u32 t4, .int .i64 t5, .slice none 0 0, .slice Ao29 t9.length co29, .int .u32 t12, .int .u32 t13, .int .i64 1, .int .u32 t15] 38 (0, 0)) (by (with_reducible repeat (first | refine blk_drewN ?_ _ | refine blk_drew ?_ | refine blk_alloc ?_ _)); exact BK16.out) hb)
      have n6_ := Aside0.mk (below_step (by repeat (first | (with_reducible first | exact HB.out | apply below_alloc | apply pw_below_drewN | apply below_drew1 | refine below_set ?_ GE1.out | refine below_set ?_ GE16.out) | exact HB.out)) hb)
      clear HO8
      clear HO11
      clear HO21
      clear HO24
      clear BK1
      clear BK16
      clear HB
      have HO8 := n0_
      have HO11 := n1_
      have HO21 := n2_
      have HO24 := n3_
      have BK1 := n4_
      have BK16 := n5_
      have HB := n6_
      clear n0_ n1_ n2_ n3_ n4_ n5_ n6_
      (try clear hb)
      (try clear hb2)
      (try clear hk)
      (try clear hi)
      refine hK.out _ _ ⟨(blk_cell BK16.out 0).trans rfl, (blk_cell BK16.out 1).trans rfl, (blk_cell BK16.out 2).trans rfl, (blk_cell BK16.out 3).trans rfl, (blk_cell BK16.out 4).trans rfl, (blk_cell BK16.out 5).trans rfl, (blk_cell BK16.out 6).trans rfl, (blk_cell BK16.out 7).trans rfl⟩ (fun hHeld => ?_)
      clear hK K
      refine norm_ (a' := ?_) ?_ ?_
      rotate_left
      ·
       show Act.put _ (some 28) _ = _
       simp only [Act.put, List.setIfInBounds_toArray, List.set_cons_zero, List.set_cons_succ, i64_w, i32_w, IntKind.wrap_u32]
       rfl
      refine pure_ (i := 6) (N := some 33) (v := ?_) (a' := ?_) #[true, true, true, true, true, true, true, false] rfl rfl (any_of HT_.out (by kernel_rfl)) (fun _ _ _ h => h) (Or.inl ⟨by rfl, ?_⟩) ?_ ?_
      rotate_left
      ·
       intro w'
       go_simp
       with_reducible rfl
      rotate_left
      ·
       simp only [Act.put, List.setIfInBounds_toArray, List.set_cons_zero, List.set_cons_succ, i64_w, i32_w, IntKind.wrap_u32]
       rfl
      refine pure_ (i := 7) (N := some 2) (v := ?_) (a' := ?_) #[true, true, true, true, true, true, true, true] rfl rfl (any_of HT_.out (by kernel_rfl)) (fun _ _ _ h => h) (Or.inl ⟨by rfl, ?_⟩) ?_ ?_
      rotate_left
      ·
       intro w'
       go_simp
       with_reducible rfl
      rotate_left
      ·
       simp only [Act.put, List.setIfInBounds_toArray, List.set_cons_zero, List.set_cons_succ, i64_w, i32_w, IntKind.wrap_u32]
       rfl
      refine done_ (done_of HT_.out (by kernel_rfl)) ?_
      try go_wp2
      go_ret
      exact ⟨by first | rfl | (simp [errW_none, errW_some] <;> rfl) | (simp [*, errW_none, errW_some] <;> rfl), by repeat (first | (with_reducible first | exact HB.out | apply below_alloc | apply pw_below_drewN | apply below_drew1 | refine below_set ?_ GE1.out | refine below_set ?_ GE16.out) | exact HB.out)⟩
     ·
      rw [if_neg c17] at H
      have c17b0 : (t31 == 0) = false := beq_eq_false_iff_ne.mpr c17
      have c17b1 : (t31 != 0) = true := bne_iff_ne.mpr c17
      obtain rfl := Option.some.inj H
      go_enter Try.func10, Try.ntmps10
      try go_wp2_with (first | ((with_reducible refine gate_dst (N := 1) rfl ?_); refine box_event ?hg (N := 1) ?hd (cs := #[.int .u32 a0_0, .int .i64 a0_1, .slice A0_2 l0_2.length c0_2, .slice A0_3 l0_3.length c0_3, .int .u32 a0_4, .int .u32 a0_5, .int .i64 a0_6, .int .u32 a0_7]) (t := 38) ?hr ?_; (case hd => rfl); (case hg => rfl); (case hr => first | (go_simp; done) | (go_simp; rfl)); intro gb1 hg w42 hbox hb; have n0_ := Aside0.mk (below_step (by repeat (first | (with_reducible first | exact HB.out | apply below_alloc | apply pw_below_drewN | apply below_drew1) | exact HB.out)) hb); have n1_ := Aside0.mk (hbox); have n2_ := Aside0.mk ((by rw [hg]; exact (below_size (by repeat (first | (with_reducible first | exact HB.out | apply below_alloc | apply pw_below_drewN | apply below_drew1) | exact HB.out))) : w.heap.size ≤ gb1)); have n3_ := Aside0.mk ((by rw [hg]; exact (below_size (by repeat (first | (with_reducible first | exact HB.out | apply below_alloc | apply pw_below_drewN | apply below_drew1) | exact HB.out))) : w.heap.size ≤ gb1)); clear HB; have HB := n0_; have BK1 := n1_; have GW1 := n2_; have GE1 := n3_; clear n0_ n1_ n2_ n3_; clear hb hbox hg) | ((with_reducible refine gate_callee (f := 29) rfl ?_); refine goesL_ (some 4) rfl rfl Try.func29 (by kernel_rfl) rfl #[] rfl (by (try simp only [List.map_toArray, List.map_cons, List.map_nil]); first | done | rfl | (simp only [List.length_drop, List.length_take]; rfl)) ?_; (with_reducible refine (q15z.calls k  true _ A2.out).mono ?_); rintro e w43 ⟨rfl, hb⟩; refine ⟨_, rfl, ?_⟩; have n0_ := Aside0.mk (blk_below (g := gb1) (o := .cells #[.int .u32 a0_0, .int .i64 a0_1, .slice A0_2 l0_2.length c0_2, .slice A0_3 l0_3.length c0_3, .int .u32 a0_4, .int .u32 a0_5, .int .i64 a0_6, .int .u32 a0_7] 38 (0, 0)) (by (with_reducible repeat (first | refine blk_drewN ?_ _ | refine blk_drew ?_ | refine blk_alloc ?_ _)); exact BK1.out) hb); have n1_ := Aside0.mk (below_step (by repeat (first | (with_reducible first | exact HB.out | apply below_alloc | apply pw_below_drewN | apply below_drew1 | refine below_set ?_ GE1.out) | exact HB.out)) hb); clear BK1; clear HB; have BK1 := n0_; have HB := n1_; clear n0_ n1_; (try clear hb); (try clear hb2); (try clear hk); (try clear hi); have hcz44_0 : w43.cell? ⟨gb1, 0, none⟩ = some (.int .u32 a0_0) := (blk_cell BK1.out 0).trans rfl; have hcz44_1 : w43.cell? ⟨gb1, 1, none⟩ = some (.int .i64 a0_1) := (blk_cell BK1.out 1).trans rfl; have hcz44_2 : w43.cell? ⟨gb1, 2, none⟩ = some (.slice A0_2 l0_2.length c0_2) := (blk_cell BK1.out 2).trans rfl; have hcz44_3 : w43.cell? ⟨gb1, 3, none⟩ = some (.slice A0_3 l0_3.length c0_3) := (blk_cell BK1.out 3).trans rfl; have hcz44_4 : w43.cell? ⟨gb1, 4, none⟩ = some (.int .u32 a0_4) := (blk_cell BK1.out 4).trans rfl; have hcz44_5 : w43.cell? ⟨gb1, 5, none⟩ = some (.int .u32 a0_5) := (blk_cell BK1.out 5).trans rfl; have hcz44_6 : w43.cell? ⟨gb1, 6, none⟩ = some (.int .i64 a0_6) := (blk_cell BK1.out 6).trans rfl; have hcz44_7 : w43.cell? ⟨gb1, 7, none⟩ = some (.int .u32 a0_7) := (blk_cell BK1.out 7).trans rfl; have hfz44_0 := blk_frozen BK1.out 0; have hfz44_1 := blk_frozen BK1.out 1; have hfz44_2 := blk_frozen BK1.out 2; have hfz44_3 := blk_frozen BK1.out 3; have hfz44_4 := blk_frozen BK1.out 4; have hfz44_5 := blk_frozen BK1.out 5; have hfz44_6 := blk_frozen BK1.out 6; have hfz44_7 := blk_frozen BK1.out 7) | ((with_reducible refine gate_callee (f := 34) rfl ?_); refine goesL_ (some 7) rfl rfl Try.func34 (by kernel_rfl) rfl #[.agg #[.int .u32 a0_0, .int .i64 a0_1, .slice A0_2 l0_2.length c0_2, .slice A0_3 l0_3.length c0_3, .int .u32 a0_4, .int .u32 a0_5, .int .i64 a0_6, .int .u32 a0_7]] rfl (by (try simp only [List.map_toArray, List.map_cons, List.map_nil]); first | done | rfl | (simp only [List.length_drop, List.length_take]; rfl)) ?_; (with_reducible refine (q16z.calls a0_0 a0_1 _ _ l0_2 _ _ l0_3 a0_4 a0_5 a0_6 a0_7 false _ ?side1 ?side2 ?side3 ?side4 A4.out).mono ?_); (case side1 => repeat (first | exact (Kd.C_below HR0_2.out HB.out) | (with_reducible refine Kd.C_alloc ?_ _) | (with_reducible refine Kd.C_drewN ?_ _) | (with_reducible refine Kd.C_drew ?_))); (case side2 => exact HC0_2.out); (case side3 => repeat (first | exact (Kd.C_below HR0_3.out HB.out) | (with_reducible refine Kd.C_alloc ?_ _) | (with_reducible refine Kd.C_drewN ?_ _) | (with_reducible refine Kd.C_drew ?_))); (case side4 => exact HC0_3.out); rintro e w45 ⟨rfl, hb⟩; refine ⟨_, rfl, ?_⟩; have n0_ := Aside0.mk (blk_below (g := gb1) (o := .cells #[.int .u32 a0_0, .int .i64 a0_1, .slice A0_2 l0_2.length c0_2, .slice A0_3 l0_3.length c0_3, .int .u32 a0_4, .int .u32 a0_5, .int .i64 a0_6, .int .u32 a0_7] 38 (0, 0)) (by (with_reducible repeat (first | refine blk_drewN ?_ _ | refine blk_drew ?_ | refine blk_alloc ?_ _)); exact BK1.out) hb); have n1_ := Aside0.mk (below_step (by repeat (first | (with_reducible first | exact HB.out | apply below_alloc | apply pw_below_drewN | apply below_drew1 | refine below_set ?_ GE1.out) | exact HB.out)) hb); clear BK1; clear HB; have BK1 := n0_; have HB := n1_; clear n0_ n1_; (try clear hb); (try clear hb2); (try clear hk); (try clear hi); have hcz46_0 : w45.cell? ⟨gb1, 0, none⟩ = some (.int .u32 a0_0) := (blk_cell BK1.out 0).trans rfl; have hcz46_1 : w45.cell? ⟨gb1, 1, none⟩ = some (.int .i64 a0_1) := (blk_cell BK1.out 1).trans rfl; have hcz46_2 : w45.cell? ⟨gb1, 2, none⟩ = some (.slice A0_2 l0_2.length c0_2) := (blk_cell BK1.out 2).trans rfl; have hcz46_3 : w45.cell? ⟨gb1, 3, none⟩ = some (.slice A0_3 l0_3.length c0_3) := (blk_cell BK1.out 3).trans rfl; have hcz46_4 : w45.cell? ⟨gb1, 4, none⟩ = some (.int .u32 a0_4) := (blk_cell BK1.out 4).trans rfl; have hcz46_5 : w45.cell? ⟨gb1, 5, none⟩ = some (.int .u32 a0_5) := (blk_cell BK1.out 5).trans rfl; have hcz46_6 : w45.cell? ⟨gb1, 6, none⟩ = some (.int .i64 a0_6) := (blk_cell BK1.out 6).trans rfl; have hcz46_7 : w45.cell? ⟨gb1, 7, none⟩ = some (.int .u32 a0_7) := (blk_cell BK1.out 7).trans rfl; have hfz46_0 := blk_frozen BK1.out 0; have hfz46_1 := blk_frozen BK1.out 1; have hfz46_2 := blk_frozen BK1.out 2; have hfz46_3 := blk_frozen BK1.out 3; have hfz46_4 := blk_frozen BK1.out 4; have hfz46_5 := blk_frozen BK1.out 5; have hfz46_6 := blk_frozen BK1.out 6; have hfz46_7 := blk_frozen BK1.out 7) | ((with_reducible refine gate_callee (f := 36) rfl ?_); refine goesL_ (some 9) rfl rfl Try.func36 (by kernel_rfl) rfl #[.agg #[.int .u32 a0_0, .int .i64 a0_1, .slice A0_2 l0_2.length c0_2, .slice A0_3 l0_3.length c0_3, .int .u32 a0_4, .int .u32 a0_5, .int .i64 a0_6, .int .u32 a0_7]] rfl (by (try simp only [List.map_toArray, List.map_cons, List.map_nil]); first | done | rfl | (simp only [List.length_drop, List.length_take]; rfl)) ?_; (with_reducible refine (q6z.calls k a0_0 a0_1 _ _ l0_2 _ _ l0_3 a0_4 a0_5 a0_6 a0_7 t4 t5 t6 t9 t12 t13 t14 t15 _ ?side1 ?side2 ?side3 ?side4 A10.out).mono ?_); (case side1 => repeat (first | exact (Kd.C_below HR0_2.out HB.out) | (with_reducible refine Kd.C_alloc ?_ _) | (with_reducible refine Kd.C_drewN ?_ _) | (with_reducible refine Kd.C_drew ?_))); (case side2 => exact HC0_2.out); (case side3 => repeat (first | exact (Kd.C_below HR0_3.out HB.out) | (with_reducible refine Kd.C_alloc ?_ _) | (with_reducible refine Kd.C_drewN ?_ _) | (with_reducible refine Kd.C_drew ?_))); (case side4 => exact HC0_3.out); rintro e w47 ⟨v7, v10, rfl, ho0, ho1, hb⟩; refine ⟨_, rfl, ?_⟩; have n0_ := Aside0.mk (Kd.R_lower ho0 (below_size (by repeat (first | (with_reducible first | exact HB.out | apply below_alloc | apply pw_below_drewN | apply below_drew1 | refine below_set ?_ GE1.out) | exact HB.out)))); have n1_ := Aside0.mk (Kd.R_lower ho1 (below_size (by repeat (first | (with_reducible first | exact HB.out | apply below_alloc | apply pw_below_drewN | apply below_drew1 | refine below_set ?_ GE1.out) | exact HB.out)))); have n2_ := Aside0.mk (blk_below (g := gb1) (o := .cells #[.int .u32 a0_0, .int .i64 a0_1, .slice A0_2 l0_2.length c0_2, .slice A0_3 l0_3.length c0_3, .int .u32 a0_4, .int .u32 a0_5, .int .i64 a0_6, .int .u32 a0_7] 38 (0, 0)) (by (with_reducible repeat (first | refine blk_drewN ?_ _ | refine blk_drew ?_ | refine blk_alloc ?_ _)); exact BK1.out) hb); have n3_ := Aside0.mk (below_step (by repeat (first | (with_reducible first | exact HB.out | apply below_alloc | apply pw_below_drewN | apply below_drew1 | refine below_set ?_ GE1.out) | exact HB.out)) hb); clear BK1; clear HB; have HO8 := n0_; have HO11 := n1_; have BK1 := n2_; have HB := n3_; clear n0_ n1_ n2_ n3_; (try clear hb); (try clear hb2); (try clear hk); (try clear hi); (try clear ho0); (try clear ho1)) | ((with_reducible refine gate_dst (N := 3) rfl ?_); refine box_event ?hg (N := 3) ?hd (cs := #[.int .u32 0, .int .i64 0, .slice none 0 0, .slice none 0 0, .int .u32 0, .int .u32 0, .int .i64 0, .int .u32 0]) (t := 38) ?hr ?_; (case hd => rfl); (case hg => rfl); (case hr => first | (go_simp; done) | (go_simp; rfl)); intro gb16 hg w48 hbox hb; have n0_ := Aside0.mk (Kd.R_below (by (with_reducible repeat (first | apply Kd.R_alloc | apply Kd.R_drewN | apply Kd.R_drew)); exact HO8.out) hb); have n1_ := Aside0.mk (Kd.R_below (by (with_reducible repeat (first | apply Kd.R_alloc | apply Kd.R_drewN | apply Kd.R_drew)); exact HO11.out) hb); have n2_ := Aside0.mk (blk_below (g := gb1) (o := .cells #[.int .u32 a0_0, .int .i64 a0_1, .slice A0_2 l0_2.length c0_2, .slice A0_3 l0_3.length c0_3, .int .u32 a0_4, .int .u32 a0_5, .int .i64 a0_6, .int .u32 a0_7] 38 (0, 0)) (by (with_reducible repeat (first | refine blk_drewN ?_ _ | refine blk_drew ?_ | refine blk_alloc ?_ _)); exact BK1.out) hb); have n3_ := Aside0.mk (below_step (by repeat (first | (with_reducible first | exact HB.out | apply below_alloc | apply pw_below_drewN | apply below_drew1 | refine below_set ?_ GE1.out) | exact HB.out)) hb); have n4_ := Aside0.mk (hbox); have n5_ := Aside0.mk ((by rw [hg]; exact (below_size (by repeat (first | (with_reducible first | exact HB.out | apply below_alloc | apply pw_below_drewN | apply below_drew1 | refine below_set ?_ GE1.out) | exact HB.out))) : w.heap.size ≤ gb16)); have n6_ := Aside0.mk ((by rw [hg]; exact (below_size (by repeat (first | (with_reducible first | exact HB.out | apply below_alloc | apply pw_below_drewN | apply below_drew1 | refine below_set ?_ GE1.out) | exact HB.out))) : w.heap.size ≤ gb16)); have n7_ := Aside0.mk ((by rw [hg]; exact Nat.ne_of_lt (blk_lt (g := gb1) (o := .cells #[.int .u32 a0_0, .int .i64 a0_1, .slice A0_2 l0_2.length c0_2, .slice A0_3 l0_3.length c0_3, .int .u32 a0_4, .int .u32 a0_5, .int .i64 a0_6, .int .u32 a0_7] 38 (0, 0)) (by (with_reducible repeat (first | refine blk_drewN ?_ _ | refine blk_drew ?_ | refine blk_alloc ?_ _)); exact BK1.out)) : gb1 ≠ gb16)); have n8_ := Aside0.mk ((by rw [hg]; exact Nat.ne_of_gt (blk_lt (g := gb1) (o := .cells #[.int .u32 a0_0, .int .i64 a0_1, .slice A0_2 l0_2.length c0_2, .slice A0_3 l0_3.length c0_3, .int .u32 a0_4, .int .u32 a0_5, .int .i64 a0_6, .int .u32 a0_7] 38 (0, 0)) (by (with_reducible repeat (first | refine blk_drewN ?_ _ | refine blk_drew ?_ | refine blk_alloc ?_ _)); exact BK1.out)) : gb16 ≠ gb1)); clear HO8; clear HO11; clear BK1; clear HB; have HO8 := n0_; have HO11 := n1_; have BK1 := n2_; have HB := n3_; have BK16 := n4_; have GW16 := n5_; have GE16 := n6_; have NB1_16 := n7_; have NB16_1 := n8_; clear n0_ n1_ n2_ n3_ n4_ n5_ n6_ n7_ n8_; clear hb hbox hg; have hnb49 := NB16_1.out; have hnc49 := NB1_16.out; have hcz50_0 : w48.cell? ⟨gb16, 0, none⟩ = some (.int .u32 0) := (blk_cell BK16.out 0).trans rfl; have hcz50_1 : w48.cell? ⟨gb16, 1, none⟩ = some (.int .i64 0) := (blk_cell BK16.out 1).trans rfl; have hcz50_2 : w48.cell? ⟨gb16, 2, none⟩ = some (.slice none 0 0) := (blk_cell BK16.out 2).trans rfl; have hcz50_3 : w48.cell? ⟨gb16, 3, none⟩ = some (.slice none 0 0) := (blk_cell BK16.out 3).trans rfl; have hcz50_4 : w48.cell? ⟨gb16, 4, none⟩ = some (.int .u32 0) := (blk_cell BK16.out 4).trans rfl; have hcz50_5 : w48.cell? ⟨gb16, 5, none⟩ = some (.int .u32 0) := (blk_cell BK16.out 5).trans rfl; have hcz50_6 : w48.cell? ⟨gb16, 6, none⟩ = some (.int .i64 0) := (blk_cell BK16.out 6).trans rfl; have hcz50_7 : w48.cell? ⟨gb16, 7, none⟩ = some (.int .u32 0) := (blk_cell BK16.out 7).trans rfl; have hfz50_0 := blk_frozen BK16.out 0; have hfz50_1 := blk_frozen BK16.out 1; have hfz50_2 := blk_frozen BK16.out 2; have hfz50_3 := blk_frozen BK16.out 3; have hfz50_4 := blk_frozen BK16.out 4; have hfz50_5 := blk_frozen BK16.out 5; have hfz50_6 := blk_frozen BK16.out 6; have hfz50_7 := blk_frozen BK16.out 7; obtain ⟨Ao51, co51, eo51⟩ := Kd.R_slice HO8.out; subst eo51; obtain ⟨Ao52, co52, eo52⟩ := Kd.R_slice HO11.out; subst eo52))
      have n0_ : Aside0 (Kd.R (Kd.int .u32) 33 ((((((((w48.setCell ⟨gb16, 0, none⟩ (.int .u32 t4)).setCell ⟨gb16, 1, none⟩ (.int .i64 t5)).setCell ⟨gb16, 2, none⟩ (.slice Ao51 t6.length co51)).setCell ⟨gb16, 3, none⟩ (.slice Ao52 t9.length co52)).setCell ⟨gb16, 4, none⟩ (.int .u32 t12)).setCell ⟨gb16, 5, none⟩ (.int .u32 t13)).setCell ⟨gb16, 6, none⟩ (.int .i64 t14)).setCell ⟨gb16, 7, none⟩ (.int .u32 t15)) w.heap.size (fun k_ => some k_ ≠ (.slice Ao52 t9.length co52 : Value).ownBlock) (.slice Ao51 t6.length co51) t6) := ⟨by (with_reducible repeat (first | apply Kd.R_alloc | apply Kd.R_drewN | apply Kd.R_drew)); exact Kd.R_mono (Kd.R_far (p := ⟨gb16, 7, none⟩) (Kd.R_far (p := ⟨gb16, 6, none⟩) (Kd.R_far (p := ⟨gb16, 5, none⟩) (Kd.R_far (p := ⟨gb16, 4, none⟩) (Kd.R_far (p := ⟨gb16, 3, none⟩) (Kd.R_far (p := ⟨gb16, 2, none⟩) (Kd.R_far (p := ⟨gb16, 1, none⟩) (Kd.R_far (p := ⟨gb16, 0, none⟩) (Kd.R_types HO8.out BK16.out (by decide)) (fun _ hk => hk.2) (.int .u32 t4)) (fun _ hk => hk.2) (.int .i64 t5)) (fun _ hk => hk.2) (.slice Ao51 t6.length co51)) (fun _ hk => hk.2) (.slice Ao52 t9.length co52)) (fun _ hk => hk.2) (.int .u32 t12)) (fun _ hk => hk.2) (.int .u32 t13)) (fun _ hk => hk.2) (.int .i64 t14)) (fun _ hk => hk.2) (.int .u32 t15)) (fun _ hk => hk.1)⟩
      have n1_ : Aside0 (Kd.R (Kd.int .u32) 33 ((((((((w48.setCell ⟨gb16, 0, none⟩ (.int .u32 t4)).setCell ⟨gb16, 1, none⟩ (.int .i64 t5)).setCell ⟨gb16, 2, none⟩ (.slice Ao51 t6.length co51)).setCell ⟨gb16, 3, none⟩ (.slice Ao52 t9.length co52)).setCell ⟨gb16, 4, none⟩ (.int .u32 t12)).setCell ⟨gb16, 5, none⟩ (.int .u32 t13)).setCell ⟨gb16, 6, none⟩ (.int .i64 t14)).setCell ⟨gb16, 7, none⟩ (.int .u32 t15)) w.heap.size (fun k_ => some k_ ≠ (.slice Ao51 t6.length co51 : Value).ownBlock) (.slice Ao52 t9.length co52) t9) := ⟨by (with_reducible repeat (first | apply Kd.R_alloc | apply Kd.R_drewN | apply Kd.R_drew)); exact Kd.R_mono (Kd.R_far (p := ⟨gb16, 7, none⟩) (Kd.R_far (p := ⟨gb16, 6, none⟩) (Kd.R_far (p := ⟨gb16, 5, none⟩) (Kd.R_far (p := ⟨gb16, 4, none⟩) (Kd.R_far (p := ⟨gb16, 3, none⟩) (Kd.R_far (p := ⟨gb16, 2, none⟩) (Kd.R_far (p := ⟨gb16, 1, none⟩) (Kd.R_far (p := ⟨gb16, 0, none⟩) (Kd.R_types HO11.out BK16.out (by decide)) (fun _ hk => hk.2) (.int .u32 t4)) (fun _ hk => hk.2) (.int .i64 t5)) (fun _ hk => hk.2) (.slice Ao51 t6.length co51)) (fun _ hk => hk.2) (.slice Ao52 t9.length co52)) (fun _ hk => hk.2) (.int .u32 t12)) (fun _ hk => hk.2) (.int .u32 t13)) (fun _ hk => hk.2) (.int .i64 t14)) (fun _ hk => hk.2) (.int .u32 t15)) (fun _ hk => hk.1)⟩
      have n2_ : Aside0 (((((((((w48.setCell ⟨gb16, 0, none⟩ (.int .u32 t4)).setCell ⟨gb16, 1, none⟩ (.int .i64 t5)).setCell ⟨gb16, 2, none⟩ (.slice Ao51 t6.length co51)).setCell ⟨gb16, 3, none⟩ (.slice Ao52 t9.length co52)).setCell ⟨gb16, 4, none⟩ (.int .u32 t12)).setCell ⟨gb16, 5, none⟩ (.int .u32 t13)).setCell ⟨gb16, 6, none⟩ (.int .i64 t14)).setCell ⟨gb16, 7, none⟩ (.int .u32 t15)).heap[gb1]? = some (.cells #[.int .u32 a0_0, .int .i64 a0_1, .slice A0_2 l0_2.length c0_2, .slice A0_3 l0_3.length c0_3, .int .u32 a0_4, .int .u32 a0_5, .int .i64 a0_6, .int .u32 a0_7] 38 (0, 0))) := ⟨by (with_reducible repeat (first | refine blk_drewN ?_ _ | refine blk_drew ?_ | refine blk_alloc ?_ _)); refine blk_far ?_ NB1_16.out _; (with_reducible repeat (first | refine blk_drewN ?_ _ | refine blk_drew ?_ | refine blk_alloc ?_ _)); refine blk_far ?_ NB1_16.out _; (with_reducible repeat (first | refine blk_drewN ?_ _ | refine blk_drew ?_ | refine blk_alloc ?_ _)); refine blk_far ?_ NB1_16.out _; (with_reducible repeat (first | refine blk_drewN ?_ _ | refine blk_drew ?_ | refine blk_alloc ?_ _)); refine blk_far ?_ NB1_16.out _; (with_reducible repeat (first | refine blk_drewN ?_ _ | refine blk_drew ?_ | refine blk_alloc ?_ _)); refine blk_far ?_ NB1_16.out _; (with_reducible repeat (first | refine blk_drewN ?_ _ | refine blk_drew ?_ | refine blk_alloc ?_ _)); refine blk_far ?_ NB1_16.out _; (with_reducible repeat (first | refine blk_drewN ?_ _ | refine blk_drew ?_ | refine blk_alloc ?_ _)); refine blk_far ?_ NB1_16.out _; (with_reducible repeat (first | refine blk_drewN ?_ _ | refine blk_drew ?_ | refine blk_alloc ?_ _)); refine blk_far ?_ NB1_16.out _; (with_reducible repeat (first | refine blk_drewN ?_ _ | refine blk_drew ?_ | refine blk_alloc ?_ _)); exact BK1.out⟩
      have n3_ : Aside0 (((((((((w48.setCell ⟨gb16, 0, none⟩ (.int .u32 t4)).setCell ⟨gb16, 1, none⟩ (.int .i64 t5)).setCell ⟨gb16, 2, none⟩ (.slice Ao51 t6.length co51)).setCell ⟨gb16, 3, none⟩ (.slice Ao52 t9.length co52)).setCell ⟨gb16, 4, none⟩ (.int .u32 t12)).setCell ⟨gb16, 5, none⟩ (.int .u32 t13)).setCell ⟨gb16, 6, none⟩ (.int .i64 t14)).setCell ⟨gb16, 7, none⟩ (.int .u32 t15)).heap[gb16]? = some (.cells #[.int .u32 t4, .int .i64 t5, .slice Ao51 t6.length co51, .slice Ao52 t9.length co52, .int .u32 t12, .int .u32 t13, .int .i64 t14, .int .u32 t15] 38 (0, 0))) := ⟨by (with_reducible repeat (first | refine blk_drewN ?_ _ | refine blk_drew ?_ | refine blk_alloc ?_ _)); refine blk_put (cs := #[.int .u32 t4, .int .i64 t5, .slice Ao51 t6.length co51, .slice Ao52 t9.length co52, .int .u32 t12, .int .u32 t13, .int .i64 t14, .int .u32 0]) ?_ 7 _ rfl; (with_reducible repeat (first | refine blk_drewN ?_ _ | refine blk_drew ?_ | refine blk_alloc ?_ _)); refine blk_put (cs := #[.int .u32 t4, .int .i64 t5, .slice Ao51 t6.length co51, .slice Ao52 t9.length co52, .int .u32 t12, .int .u32 t13, .int .i64 0, .int .u32 0]) ?_ 6 _ rfl; (with_reducible repeat (first | refine blk_drewN ?_ _ | refine blk_drew ?_ | refine blk_alloc ?_ _)); refine blk_put (cs := #[.int .u32 t4, .int .i64 t5, .slice Ao51 t6.length co51, .slice Ao52 t9.length co52, .int .u32 t12, .int .u32 0, .int .i64 0, .int .u32 0]) ?_ 5 _ rfl; (with_reducible repeat (first | refine blk_drewN ?_ _ | refine blk_drew ?_ | refine blk_alloc ?_ _)); refine blk_put (cs := #[.int .u32 t4, .int .i64 t5, .slice Ao51 t6.length co51, .slice Ao52 t9.length co52, .int .u32 0, .int .u32 0, .int .i64 0, .int .u32 0]) ?_ 4 _ rfl; (with_reducible repeat (first | refine blk_drewN ?_ _ | refine blk_drew ?_ | refine blk_alloc ?_ _)); refine blk_put (cs := #[.int .u32 t4, .int .i64 t5, .slice Ao51 t6.length co51, .slice none 0 0, .int .u32 0, .int .u32 0, .int .i64 0, .int .u32 0]) ?_ 3 _ rfl; (with_reducible repeat (first | refine blk_drewN ?_ _ | refine blk_drew ?_ | refine blk_alloc ?_ _)); refine blk_put (cs := #[.int .u32 t4, .int .i64 t5, .slice none 0 0, .slice none 0 0, .int .u32 0, .int .u32 0, .int .i64 0, .int .u32 0]) ?_ 2 _ rfl; (with_reducible repeat (first | refine blk_drewN ?_ _ | refine blk_drew ?_ | refine blk_alloc ?_ _)); refine blk_put (cs := #[.int .u32 t4, .int .i64 0, .slice none 0 0, .slice none 0 0, .int .u32 0, .int .u32 0, .int .i64 0, .int .u32 0]) ?_ 1 _ rfl; (with_reducible repeat (first | refine blk_drewN ?_ _ | refine blk_drew ?_ | refine blk_alloc ?_ _)); refine blk_put (cs := #[.int .u32 0, .int .i64 0, .slice none 0 0, .slice none 0 0, .int .u32 0, .int .u32 0, .int .i64 0, .int .u32 0]) ?_ 0 _ rfl; (with_reducible repeat (first | refine blk_drewN ?_ _ | refine blk_drew ?_ | refine blk_alloc ?_ _)); exact BK16.out⟩
      have n4_ : Aside0 (Below w.heap.size w ((((((((w48.setCell ⟨gb16, 0, none⟩ (.int .u32 t4)).setCell ⟨gb16, 1, none⟩ (.int .i64 t5)).setCell ⟨gb16, 2, none⟩ (.slice Ao51 t6.length co51)).setCell ⟨gb16, 3, none⟩ (.slice Ao52 t9.length co52)).setCell ⟨gb16, 4, none⟩ (.int .u32 t12)).setCell ⟨gb16, 5, none⟩ (.int .u32 t13)).setCell ⟨gb16, 6, none⟩ (.int .i64 t14)).setCell ⟨gb16, 7, none⟩ (.int .u32 t15))) := ⟨by repeat (first | (with_reducible first | exact HB.out | apply below_alloc | apply pw_below_drewN | apply below_drew1 | refine below_set ?_ GE1.out | refine below_set ?_ GE16.out) | exact HB.out)⟩
      (try clear HO8)
      (try clear HO11)
      (try clear BK1)
      (try clear BK16)
      (try clear HB)
      generalize ((((((((w48.setCell ⟨gb16, 0, none⟩ (.int .u32 t4)).setCell ⟨gb16, 1, none⟩ (.int .i64 t5)).setCell ⟨gb16, 2, none⟩ (.slice Ao51 t6.length co51)).setCell ⟨gb16, 3, none⟩ (.slice Ao52 t9.length co52)).setCell ⟨gb16, 4, none⟩ (.int .u32 t12)).setCell ⟨gb16, 5, none⟩ (.int .u32 t13)).setCell ⟨gb16, 6, none⟩ (.int .i64 t14)).setCell ⟨gb16, 7, none⟩ (.int .u32 t15)) = w53 at n0_ n1_ n2_ n3_ n4_ ⊢
      have HO8 := n0_
      have HO11 := n1_
      have BK1 := n2_
      have BK16 := n3_
      have HB := n4_
      clear n0_ n1_ n2_ n3_ n4_
      have n0_ := Aside0.mk (Kd.R_drew HO8.out)
      have n1_ := Aside0.mk (Kd.R_drew HO11.out)
      have n2_ := Aside0.mk (blk_drew BK1.out)
      have n3_ := Aside0.mk (blk_drew BK16.out)
      have n4_ := Aside0.mk (below_drew1 HB.out)
      clear HO8
      clear HO11
      clear BK1
      clear BK16
      clear HB
      have HO8 := n0_
      have HO11 := n1_
      have BK1 := n2_
      have BK16 := n3_
      have HB := n4_
      clear n0_ n1_ n2_ n3_ n4_
      refine start_ (n := 15) (S := fun w' => w'.cell? ⟨gb16, 0, none⟩ = some (.int .u32 t4) ∧ w'.cell? ⟨gb16, 1, none⟩ = some (.int .i64 t5) ∧ w'.cell? ⟨gb16, 2, none⟩ = some (.slice Ao51 t6.length co51) ∧ w'.cell? ⟨gb16, 3, none⟩ = some (.slice Ao52 t9.length co52) ∧ w'.cell? ⟨gb16, 4, none⟩ = some (.int .u32 t12) ∧ w'.cell? ⟨gb16, 5, none⟩ = some (.int .u32 t13) ∧ w'.cell? ⟨gb16, 6, none⟩ = some (.int .i64 t14) ∧ w'.cell? ⟨gb16, 7, none⟩ = some (.int .u32 t15) ∧ w'.cell? ⟨gb1, 0, none⟩ = some (.int .u32 a0_0) ∧ w'.cell? ⟨gb1, 1, none⟩ = some (.int .i64 a0_1) ∧ w'.cell? ⟨gb1, 2, none⟩ = some (.slice A0_2 l0_2.length c0_2) ∧ w'.cell? ⟨gb1, 3, none⟩ = some (.slice A0_3 l0_3.length c0_3) ∧ w'.cell? ⟨gb1, 4, none⟩ = some (.int .u32 a0_4) ∧ w'.cell? ⟨gb1, 5, none⟩ = some (.int .u32 a0_5) ∧ w'.cell? ⟨gb1, 6, none⟩ = some (.int .i64 a0_6) ∧ w'.cell? ⟨gb1, 7, none⟩ = some (.int .u32 a0_7)) (ds := []) #[false, false, false, false, false, false, false, false, false, false, false, false, false, false, false] (by kernel_rfl) rfl rfl ⟨(blk_cell BK16.out 0).trans rfl, (blk_cell BK16.out 1).trans rfl, (blk_cell BK16.out 2).trans rfl, (blk_cell BK16.out 3).trans rfl, (blk_cell BK16.out 4).trans rfl, (blk_cell BK16.out 5).trans rfl, (blk_cell BK16.out 6).trans rfl, (blk_cell BK16.out 7).trans rfl, (blk_cell BK1.out 0).trans rfl, (blk_cell BK1.out 1).trans rfl, (blk_cell BK1.out 2).trans rfl, (blk_cell BK1.out 3).trans rfl, (blk_cell BK1.out 4).trans rfl, (blk_cell BK1.out 5).trans rfl, (blk_cell BK1.out 6).trans rfl, (blk_cell BK1.out 7).trans rfl⟩ (fun hHeld => ?_); refine with_tabW q17z.tab6 q17z.bits6 (fun HT_ HW_ => ?_)
      generalize w53.drew = w54 at HO8 HO11 BK1 BK16 HB hHeld ⊢
      refine take_ (i := 0) (N := some 10) (v := ?_) (a' := ?_) #[true, false, false, false, false, false, false, false, false, false, false, false, false, false, false] rfl rfl (take_ofW HT_.out HW_.out (by kernel_rfl)) (fun _ _ _ h => h) (Or.inl ⟨by rfl, ?_⟩) hHeld ?_ ?_
      rotate_left
      ·
       rintro w' ⟨s0, s1, s2, s3, s4, s5, s6, s7, s8, s9, s10, s11, s12, s13, s14, s15⟩
       go_simp
       with_reducible rfl
      rotate_left
      ·
       simp only [Act.put, List.setIfInBounds_toArray, List.set_cons_zero, List.set_cons_succ, i64_w, i32_w, IntKind.wrap_u32]
       rfl
      refine take_ (i := 2) (N := some 12) (v := ?_) (a' := ?_) #[true, false, true, false, false, false, false, false, false, false, false, false, false, false, false] rfl rfl (take_ofW HT_.out HW_.out (by kernel_rfl)) (fun _ _ _ h => h) (Or.inl ⟨by rfl, ?_⟩) hHeld ?_ ?_
      rotate_left
      ·
       rintro w' ⟨s0, s1, s2, s3, s4, s5, s6, s7, s8, s9, s10, s11, s12, s13, s14, s15⟩
       go_simp
       with_reducible rfl
      rotate_left
      ·
       simp only [Act.put, List.setIfInBounds_toArray, List.set_cons_zero, List.set_cons_succ, i64_w, i32_w, IntKind.wrap_u32]
       rfl
      refine one_ (i := 1) (N := some 11) #[true, true, true, false, false, false, false, false, false, false, false, false, false, false, false] rfl rfl (one_of HT_.out (by kernel_rfl)) (by decide) (fun K hK => ?_)
      refine goes_ Try.func36 (by kernel_rfl) rfl #[.agg #[.int .u32 t4, .int .i64 t5, .slice Ao51 t6.length co51, .slice Ao52 t9.length co52, .int .u32 t12, .int .u32 t13, .int .i64 t14, .int .u32 t15]] (by rfl) rfl rfl (by (try simp only [List.map_toArray, List.map_cons, List.map_nil]); first | done | rfl | (simp only [List.length_drop, List.length_take]; rfl)) ?_
      with_reducible refine (q6z.calls k t4 t5 _ _ t6 _ _ t9 t12 t13 t14 t15 t17 t18 t19 t22 t25 t26 t27 t28 _ ?side1 ?side2 ?side3 ?side4 A11.out).mono ?_
      (case side1 => repeat (first | exact (Kd.R_reads' HO8.out).2.2 | (with_reducible refine Kd.C_alloc ?_ _) | (with_reducible refine Kd.C_drewN ?_ _) | (with_reducible refine Kd.C_drew ?_)))
      (case side2 => exact (Kd.R_reads' HO8.out).2.1)
      (case side3 => repeat (first | exact (Kd.R_reads' HO11.out).2.2 | (with_reducible refine Kd.C_alloc ?_ _) | (with_reducible refine Kd.C_drewN ?_ _) | (with_reducible refine Kd.C_drew ?_)))
      (case side4 => exact (Kd.R_reads' HO11.out).2.1)
      rintro e w55 ⟨v20, v23, rfl, ho0, ho1, hb⟩
      refine ⟨_, rfl, ?_⟩
      have n0_ := Aside0.mk (Kd.R_mono (Kd.R_told (Kd.R_told (Kd.R_old (by (with_reducible repeat (first | apply Kd.R_alloc | apply Kd.R_drewN | apply Kd.R_drew)); exact HO8.out) hb) (Kd.R_base ho0)) (Kd.R_base ho1)) (fun _ h_ => h_.1))
      have n1_ := Aside0.mk (Kd.R_mono (Kd.R_told (Kd.R_told (Kd.R_old (by (with_reducible repeat (first | apply Kd.R_alloc | apply Kd.R_drewN | apply Kd.R_drew)); exact HO11.out) hb) (Kd.R_base ho0)) (Kd.R_base ho1)) (fun _ h_ => h_.1))
      have n2_ := Aside0.mk (Kd.R_lower (Kd.R_new' (Kd.R_new' ho0 (Kd.R_lt (by (with_reducible repeat (first | apply Kd.R_alloc | apply Kd.R_drewN | apply Kd.R_drew)); exact HO8.out))) (Kd.R_lt (by (with_reducible repeat (first | apply Kd.R_alloc | apply Kd.R_drewN | apply Kd.R_drew)); exact HO11.out))) (below_size (by repeat (first | (with_reducible first | exact HB.out | apply below_alloc | apply pw_below_drewN | apply below_drew1 | refine below_set ?_ GE1.out | refine below_set ?_ GE16.out) | exact HB.out))))
      have n3_ := Aside0.mk (Kd.R_lower (Kd.R_new' (Kd.R_new' ho1 (Kd.R_lt (by (with_reducible repeat (first | apply Kd.R_alloc | apply Kd.R_drewN | apply Kd.R_drew)); exact HO8.out))) (Kd.R_lt (by (with_reducible repeat (first | apply Kd.R_alloc | apply Kd.R_drewN | apply Kd.R_drew)); exact HO11.out))) (below_size (by repeat (first | (with_reducible first | exact HB.out | apply below_alloc | apply pw_below_drewN | apply below_drew1 | refine below_set ?_ GE1.out | refine below_set ?_ GE16.out) | exact HB.out))))
      have n4_ := Aside0.mk (blk_below (g := gb1) (o := .cells #[.int .u32 a0_0, .int .i64 a0_1, .slice A0_2 l0_2.length c0_2, .slice A0_3 l0_3.length c0_3, .int .u32 a0_4, .int .u32 a0_5, .int .i64 a0_6, .int .u32 a0_7] 38 (0, 0)) (by (with_reducible repeat (first | refine blk_drewN ?_ _ | refine blk_drew ?_ | refine blk_alloc ?_ _)); exact BK1.out) hb)
      have n5_ := Aside0.mk (blk_below (g := gb16) (o := .cells #[.int .u32 t4, .int .i64 t5, .slice Ao51 t6.length co51, .slice Ao52 t9.length co52, .int .u32 t12, .int .u32 t13, .int .i64 t14, .int .u32 t15] 38 (0, 0)) (by (with_reducible repeat (first | refine blk_drewN ?_ _ | refine blk_drew ?_ | refine blk_alloc ?_ _)); exact BK16.out) hb)
      have n6_ := Aside0.mk (below_step (by repeat (first | (with_reducible first | exact HB.out | apply below_alloc | apply pw_below_drewN | apply below_drew1 | refine below_set ?_ GE1.out | refine below_set ?_ GE16.out) | exact HB.out)) hb)
      clear HO8
      clear HO11
      clear BK1
      clear BK16
      clear HB
      have HO8 := n0_
      have HO11 := n1_
      have HO21 := n2_
      have HO24 := n3_
      have BK1 := n4_
      have BK16 := n5_
      have HB := n6_
      clear n0_ n1_ n2_ n3_ n4_ n5_ n6_
      (try clear hb)
      (try clear hb2)
      (try clear hk)
      (try clear hi)
      (try clear ho0)
      (try clear ho1)
      obtain ⟨Ao56, co56, eo56⟩ := Kd.R_slice HO21.out
      (first | subst eo56 | (injection eo56 with f1_ f2_ f3_; have f4_ := f1_.symm; have f5_ := f3_.symm; clear f1_ f2_ f3_; subst f4_; subst f5_))
      obtain ⟨Ao57, co57, eo57⟩ := Kd.R_slice HO24.out
      (first | subst eo57 | (injection eo57 with f1_ f2_ f3_; have f4_ := f1_.symm; have f5_ := f3_.symm; clear f1_ f2_ f3_; subst f4_; subst f5_))
      refine hK.out _ _ ⟨(blk_cell BK16.out 0).trans rfl, (blk_cell BK16.out 1).trans rfl, (blk_cell BK16.out 2).trans rfl, (blk_cell BK16.out 3).trans rfl, (blk_cell BK16.out 4).trans rfl, (blk_cell BK16.out 5).trans rfl, (blk_cell BK16.out 6).trans rfl, (blk_cell BK16.out 7).trans rfl, (blk_cell BK1.out 0).trans rfl, (blk_cell BK1.out 1).trans rfl, (blk_cell BK1.out 2).trans rfl, (blk_cell BK1.out 3).trans rfl, (blk_cell BK1.out 4).trans rfl, (blk_cell BK1.out 5).trans rfl, (blk_cell BK1.out 6).trans rfl, (blk_cell BK1.out 7).trans rfl⟩ (fun hHeld => ?_)
      clear hK K
      refine norm_ (a' := ?_) ?_ ?_
      rotate_left
      ·
       show Act.put _ (some 11) _ = _
       simp only [Act.put, List.setIfInBounds_toArray, List.set_cons_zero, List.set_cons_succ, i64_w, i32_w, IntKind.wrap_u32]
       rfl
      refine one_ (i := 3) (N := some 13) #[true, true, true, true, false, false, false, false, false, false, false, false, false, false, false] rfl rfl (one_of HT_.out (by kernel_rfl)) (by decide) (fun K hK => ?_)
      refine goes_ Try.func40 (by kernel_rfl) rfl #[.agg #[.int .u32 t17, .int .i64 t18, .slice Ao56 t19.length co56, .slice Ao57 t22.length co57, .int .u32 t25, .int .u32 t26, .int .i64 t27, .int .u32 t28], .agg #[.int .u32 t4, .int .i64 t5, .slice Ao51 t6.length co51, .slice Ao52 t9.length co52, .int .u32 t12, .int .u32 t13, .int .i64 t14, .int .u32 t15]] (by rfl) rfl rfl (by (try simp only [List.map_toArray, List.map_cons, List.map_nil]); first | done | rfl | (simp only [List.length_drop, List.length_take]; rfl)) ?_
      with_reducible refine (q13z.calls k t17 t18 _ _ t19 _ _ t22 t25 t26 t27 t28 t4 t5 _ _ t6 _ _ t9 t12 t13 t14 t15 t29 _ ?side1 ?side2 ?side3 ?side4 ?side5 ?side6 ?side7 ?side8 A12.out).mono ?_
      (case side1 => repeat (first | exact (Kd.R_reads' HO21.out).2.2 | (with_reducible refine Kd.C_alloc ?_ _) | (with_reducible refine Kd.C_drewN ?_ _) | (with_reducible refine Kd.C_drew ?_)))
      (case side2 => exact (Kd.R_reads' HO21.out).2.1)
      (case side3 => repeat (first | exact (Kd.R_reads' HO24.out).2.2 | (with_reducible refine Kd.C_alloc ?_ _) | (with_reducible refine Kd.C_drewN ?_ _) | (with_reducible refine Kd.C_drew ?_)))
      (case side4 => exact (Kd.R_reads' HO24.out).2.1)
      (case side5 => repeat (first | exact (Kd.R_reads' HO8.out).2.2 | (with_reducible refine Kd.C_alloc ?_ _) | (with_reducible refine Kd.C_drewN ?_ _) | (with_reducible refine Kd.C_drew ?_)))
      (case side6 => exact (Kd.R_reads' HO8.out).2.1)
      (case side7 => repeat (first | exact (Kd.R_reads' HO11.out).2.2 | (with_reducible refine Kd.C_alloc ?_ _) | (with_reducible refine Kd.C_drewN ?_ _) | (with_reducible refine Kd.C_drew ?_)))
      (case side8 => exact (Kd.R_reads' HO11.out).2.1)
      rintro e w58 ⟨rfl, hb⟩
      refine ⟨_, rfl, ?_⟩
      have n0_ := Aside0.mk (Kd.R_below (by (with_reducible repeat (first | apply Kd.R_alloc | apply Kd.R_drewN | apply Kd.R_drew)); exact HO8.out) hb)
      have n1_ := Aside0.mk (Kd.R_below (by (with_reducible repeat (first | apply Kd.R_alloc | apply Kd.R_drewN | apply Kd.R_drew)); exact HO11.out) hb)
      have n2_ := Aside0.mk (Kd.R_below (by (with_reducible repeat (first | apply Kd.R_alloc | apply Kd.R_drewN | apply Kd.R_drew)); exact HO21.out) hb)
      have n3_ := Aside0.mk (Kd.R_below (by (with_reducible repeat (first | apply Kd.R_alloc | apply Kd.R_drewN | apply Kd.R_drew)); exact HO24.out) hb)
      have n4_ := Aside0.mk (blk_below (g := gb1) (o := .cells #[.int .u32 a0_0, .int .i64 a0_1, .slice A0_2 l0_2.length c0_2, .slice A0_3 l0_3.length c0_3, .int .u32 a0_4, .int .u32 a0_5, .int .i64 a0_6, .int .u32 a0_7] 38 (0, 0)) (by (with_reducible repeat (first | refine blk_drewN ?_ _ | refine blk_drew ?_ | refine blk_alloc ?_ _)); exact BK1.out) hb)
      have n5_ := Aside0.mk (blk_below (g := gb16) (o := .cells #[.int .u32 t4, .int .i64 t5, .slice Ao51 t6.length co51, .slice Ao52 t9.length co52, .int .u32 t12, .int .u32 t13, .int .i64 t14, .int .u32 t15] 38 (0, 0)) (by (with_reducible repeat (first | refine blk_drewN ?_ _ | refine blk_drew ?_ | refine blk_alloc ?_ _)); exact BK16.out) hb)
      have n6_ := Aside0.mk (below_step (by repeat (first | (with_reducible first | exact HB.out | apply below_alloc | apply pw_below_drewN | apply below_drew1 | refine below_set ?_ GE1.out | refine below_set ?_ GE16.out) | exact HB.out)) hb)
      clear HO8
      clear HO11
      clear HO21
      clear HO24
      clear BK1
      clear BK16
      clear HB
      have HO8 := n0_
      have HO11 := n1_
      have HO21 := n2_
      have HO24 := n3_
      have BK1 := n4_
      have BK16 := n5_
      have HB := n6_
      clear n0_ n1_ n2_ n3_ n4_ n5_ n6_
      (try clear hb)
      (try clear hb2)
      (try clear hk)
      (try clear hi)
      refine hK.out _ _ ⟨(blk_cell BK16.out 0).trans rfl, (blk_cell BK16.out 1).trans rfl, (blk_cell BK16.out 2).trans rfl, (blk_cell BK16.out 3).trans rfl, (blk_cell BK16.out 4).trans rfl, (blk_cell BK16.out 5).trans rfl, (blk_cell BK16.out 6).trans rfl, (blk_cell BK16.out 7).trans rfl, (blk_cell BK1.out 0).trans rfl, (blk_cell BK1.out 1).trans rfl, (blk_cell BK1.out 2).trans rfl, (blk_cell BK1.out 3).trans rfl, (blk_cell BK1.out 4).trans rfl, (blk_cell BK1.out 5).trans rfl, (blk_cell BK1.out 6).trans rfl, (blk_cell BK1.out 7).trans rfl⟩ (fun hHeld => ?_)
      clear hK K
      refine norm_ (a' := ?_) ?_ ?_
      rotate_left
      ·
       show Act.put _ (some 13) _ = _
       simp only [Act.put, List.setIfInBounds_toArray, List.set_cons_zero, List.set_cons_succ, i64_w, i32_w, IntKind.wrap_u32]
       rfl
      refine pure_ (i := 4) (N := some 14) (v := ?_) (a' := ?_) #[true, true, true, true, true, false, false, false, false, false, false, false, false, false, false] rfl rfl (any_of HT_.out (by kernel_rfl)) (fun _ _ _ h => h) (Or.inl ⟨by rfl, ?_⟩) ?_ ?_
      rotate_left
      ·
       intro w'
       go_simp
       with_reducible rfl
      rotate_left
      ·
       simp only [Act.put, List.setIfInBounds_toArray, List.set_cons_zero, List.set_cons_succ, i64_w, i32_w, IntKind.wrap_u32]
       rfl
      refine pure_ (i := 5) (N := some 15) (v := ?_) (a' := ?_) #[true, true, true, true, true, true, false, false, false, false, false, false, false, false, false] rfl rfl (any_of HT_.out (by kernel_rfl)) (fun _ _ _ h => h) (Or.inl ⟨by rfl, ?_⟩) ?_ ?_
      rotate_left
      ·
       intro w'
       go_simp
       with_reducible rfl
      rotate_left
      ·
       simp only [Act.put, List.setIfInBounds_toArray, List.set_cons_zero, List.set_cons_succ, i64_w, i32_w, IntKind.wrap_u32]
       rfl
      refine take_ (i := 6) (N := some 16) (v := ?_) (a' := ?_) #[true, true, true, true, true, true, true, false, false, false, false, false, false, false, false] rfl rfl (take_ofW HT_.out HW_.out (by kernel_rfl)) (fun _ _ _ h => h) (Or.inl ⟨by rfl, ?_⟩) hHeld ?_ ?_
      rotate_left
      ·
       rintro w' ⟨s0, s1, s2, s3, s4, s5, s6, s7, s8, s9, s10, s11, s12, s13, s14, s15⟩
       go_simp
       with_reducible rfl
      rotate_left
      ·
       simp only [Act.put, List.setIfInBounds_toArray, List.set_cons_zero, List.set_cons_succ, i64_w, i32_w, IntKind.wrap_u32]
       rfl
      refine one_ (i := 7) (N := some 17) #[true, true, true, true, true, true, true, true, false, false, false, false, false, false, false] rfl rfl (one_of HT_.out (by kernel_rfl)) (by decide) (fun K hK => ?_)
      refine goes_ Try.func30 (by kernel_rfl) rfl #[.agg #[.int .u32 a0_0, .int .i64 a0_1, .slice A0_2 l0_2.length c0_2, .slice A0_3 l0_3.length c0_3, .int .u32 a0_4, .int .u32 a0_5, .int .i64 a0_6, .int .u32 a0_7]] (by rfl) rfl rfl (by (try simp only [List.map_toArray, List.map_cons, List.map_nil]); first | done | rfl | (simp only [List.length_drop, List.length_take]; rfl)) ?_
      with_reducible refine (q4z.calls k a0_0 a0_1 _ _ l0_2 _ _ l0_3 a0_4 a0_5 a0_6 a0_7 true _ ?side1 ?side2 ?side3 ?side4 A14.out).mono ?_
      (case side1 => repeat (first | exact (Kd.C_below HR0_2.out HB.out) | (with_reducible refine Kd.C_alloc ?_ _) | (with_reducible refine Kd.C_drewN ?_ _) | (with_reducible refine Kd.C_drew ?_)))
      (case side2 => exact HC0_2.out)
      (case side3 => repeat (first | exact (Kd.C_below HR0_3.out HB.out) | (with_reducible refine Kd.C_alloc ?_ _) | (with_reducible refine Kd.C_drewN ?_ _) | (with_reducible refine Kd.C_drew ?_)))
      (case side4 => exact HC0_3.out)
      rintro e w59 ⟨rfl, hb⟩
      refine ⟨_, rfl, ?_⟩
      have n0_ := Aside0.mk (Kd.R_below (by (with_reducible repeat (first | apply Kd.R_alloc | apply Kd.R_drewN | apply Kd.R_drew)); exact HO8.out) hb)
      have n1_ := Aside0.mk (Kd.R_below (by (with_reducible repeat (first | apply Kd.R_alloc | apply Kd.R_drewN | apply Kd.R_drew)); exact HO11.out) hb)
      have n2_ := Aside0.mk (Kd.R_below (by (with_reducible repeat (first | apply Kd.R_alloc | apply Kd.R_drewN | apply Kd.R_drew)); exact HO21.out) hb)
      have n3_ := Aside0.mk (Kd.R_below (by (with_reducible repeat (first | apply Kd.R_alloc | apply Kd.R_drewN | apply Kd.R_drew)); exact HO24.out) hb)
      have n4_ := Aside0.mk (blk_below (g := gb1) (o := .cells #[.int .u32 a0_0, .int .i64 a0_1, .slice A0_2 l0_2.length c0_2, .slice A0_3 l0_3.length c0_3, .int .u32 a0_4, .int .u32 a0_5, .int .i64 a0_6, .int .u32 a0_7] 38 (0, 0)) (by (with_reducible repeat (first | refine blk_drewN ?_ _ | refine blk_drew ?_ | refine blk_alloc ?_ _)); exact BK1.out) hb)
      have n5_ := Aside0.mk (blk_below (g := gb16) (o := .cells #[.int .u32 t4, .int .i64 t5, .slice Ao51 t6.length co51, .slice Ao52 t9.length co52, .int .u32 t12, .int .u32 t13, .int .i64 t14, .int .u32 t15] 38 (0, 0)) (by (with_reducible repeat (first | refine blk_drewN ?_ _ | refine blk_drew ?_ | refine blk_alloc ?_ _)); exact BK16.out) hb)
      have n6_ := Aside0.mk (below_step (by repeat (first | (with_reducible first | exact HB.out | apply below_alloc | apply pw_below_drewN | apply below_drew1 | refine below_set ?_ GE1.out | refine below_set ?_ GE16.out) | exact HB.out)) hb)
      clear HO8
      clear HO11
      clear HO21
      clear HO24
      clear BK1
      clear BK16
      clear HB
      have HO8 := n0_
      have HO11 := n1_
      have HO21 := n2_
      have HO24 := n3_
      have BK1 := n4_
      have BK16 := n5_
      have HB := n6_
      clear n0_ n1_ n2_ n3_ n4_ n5_ n6_
      (try clear hb)
      (try clear hb2)
      (try clear hk)
      (try clear hi)
      refine hK.out _ _ ⟨(blk_cell BK16.out 0).trans rfl, (blk_cell BK16.out 1).trans rfl, (blk_cell BK16.out 2).trans rfl, (blk_cell BK16.out 3).trans rfl, (blk_cell BK16.out 4).trans rfl, (blk_cell BK16.out 5).trans rfl, (blk_cell BK16.out 6).trans rfl, (blk_cell BK16.out 7).trans rfl, (blk_cell BK1.out 0).trans rfl, (blk_cell BK1.out 1).trans rfl, (blk_cell BK1.out 2).trans rfl, (blk_cell BK1.out 3).trans rfl, (blk_cell BK1.out 4).trans rfl, (blk_cell BK1.out 5).trans rfl, (blk_cell BK1.out 6).trans rfl, (blk_cell BK1.out 7).trans rfl⟩ (fun hHeld => ?_)
      clear hK K
      refine norm_ (a' := ?_) ?_ ?_
      rotate_left
      ·
       show Act.put _ (some 17) _ = _
       simp only [Act.put, List.setIfInBounds_toArray, List.set_cons_zero, List.set_cons_succ, i64_w, i32_w, IntKind.wrap_u32]
       rfl
      refine pure_ (i := 8) (N := some 18) (v := ?_) (a' := ?_) #[true, true, true, true, true, true, true, true, true, false, false, false, false, false, false] rfl rfl (any_of HT_.out (by kernel_rfl)) (fun _ _ _ h => h) (Or.inl ⟨by rfl, ?_⟩) ?_ ?_
      rotate_left
      ·
       intro w'
       go_simp
       with_reducible rfl
      rotate_left
      ·
       simp only [Act.put, List.setIfInBounds_toArray, List.set_cons_zero, List.set_cons_succ, i64_w, i32_w, IntKind.wrap_u32]
       rfl
      refine take_ (i := 9) (N := some 19) (v := ?_) (a' := ?_) #[true, true, true, true, true, true, true, true, true, true, false, false, false, false, false] rfl rfl (take_ofW HT_.out HW_.out (by kernel_rfl)) (fun _ _ _ h => h) (Or.inl ⟨by rfl, ?_⟩) hHeld ?_ ?_
      rotate_left
      ·
       rintro w' ⟨s0, s1, s2, s3, s4, s5, s6, s7, s8, s9, s10, s11, s12, s13, s14, s15⟩
       go_simp
       with_reducible rfl
      rotate_left
      ·
       simp only [Act.put, List.setIfInBounds_toArray, List.set_cons_zero, List.set_cons_succ, i64_w, i32_w, IntKind.wrap_u32]
       rfl
      refine take_ (i := 10) (N := some 20) (v := ?_) (a' := ?_) #[true, true, true, true, true, true, true, true, true, true, true, false, false, false, false] rfl rfl (take_ofW HT_.out HW_.out (by kernel_rfl)) (fun _ _ _ h => h) (Or.inl ⟨by rfl, ?_⟩) hHeld ?_ ?_
      rotate_left
      ·
       rintro w' ⟨s0, s1, s2, s3, s4, s5, s6, s7, s8, s9, s10, s11, s12, s13, s14, s15⟩
       go_simp
       with_reducible rfl
      rotate_left
      ·
       simp only [Act.put, List.setIfInBounds_toArray, List.set_cons_zero, List.set_cons_succ, i64_w, i32_w, IntKind.wrap_u32]
       rfl
      refine one_ (i := 11) (N := some 21) #[true, true, true, true, true, true, true, true, true, true, true, true, false, false, false] rfl rfl (one_of HT_.out (by kernel_rfl)) (by decide) (fun K hK => ?_)
      refine goes_ Try.func40 (by kernel_rfl) rfl #[.agg #[.int .u32 t4, .int .i64 t5, .slice Ao51 t6.length co51, .slice Ao52 t9.length co52, .int .u32 t12, .int .u32 t13, .int .i64 t14, .int .u32 t15], .agg #[.int .u32 a0_0, .int .i64 a0_1, .slice A0_2 l0_2.length c0_2, .slice A0_3 l0_3.length c0_3, .int .u32 a0_4, .int .u32 a0_5, .int .i64 a0_6, .int .u32 a0_7]] (by rfl) rfl rfl (by (try simp only [List.map_toArray, List.map_cons, List.map_nil]); first | done | rfl | (simp only [List.length_drop, List.length_take]; rfl)) ?_
      with_reducible refine (q13z.calls k t4 t5 _ _ t6 _ _ t9 t12 t13 t14 t15 a0_0 a0_1 _ _ l0_2 _ _ l0_3 a0_4 a0_5 a0_6 a0_7 t31 _ ?side1 ?side2 ?side3 ?side4 ?side5 ?side6 ?side7 ?side8 A16.out).mono ?_
      (case side1 => repeat (first | exact (Kd.R_reads' HO8.out).2.2 | (with_reducible refine Kd.C_alloc ?_ _) | (with_reducible refine Kd.C_drewN ?_ _) | (with_reducible refine Kd.C_drew ?_)))
      (case side2 => exact (Kd.R_reads' HO8.out).2.1)
      (case side3 => repeat (first | exact (Kd.R_reads' HO11.out).2.2 | (with_reducible refine Kd.C_alloc ?_ _) | (with_reducible refine Kd.C_drewN ?_ _) | (with_reducible refine Kd.C_drew ?_)))
      (case side4 => exact (Kd.R_reads' HO11.out).2.1)
      (case side5 => repeat (first | exact (Kd.C_below HR0_2.out HB.out) | (with_reducible refine Kd.C_alloc ?_ _) | (with_reducible refine Kd.C_drewN ?_ _) | (with_reducible refine Kd.C_drew ?_)))
      (case side6 => exact HC0_2.out)
      (case side7 => repeat (first | exact (Kd.C_below HR0_3.out HB.out) | (with_reducible refine Kd.C_alloc ?_ _) | (with_reducible refine Kd.C_drewN ?_ _) | (with_reducible refine Kd.C_drew ?_)))
      (case side8 => exact HC0_3.out)
      rintro e w60 ⟨rfl, hb⟩
      refine ⟨_, rfl, ?_⟩
      have n0_ := Aside0.mk (Kd.R_below (by (with_reducible repeat (first | apply Kd.R_alloc | apply Kd.R_drewN | apply Kd.R_drew)); exact HO8.out) hb)
      have n1_ := Aside0.mk (Kd.R_below (by (with_reducible repeat (first | apply Kd.R_alloc | apply Kd.R_drewN | apply Kd.R_drew)); exact HO11.out) hb)
      have n2_ := Aside0.mk (Kd.R_below (by (with_reducible repeat (first | apply Kd.R_alloc | apply Kd.R_drewN | apply Kd.R_drew)); exact HO21.out) hb)
      have n3_ := Aside0.mk (Kd.R_below (by (with_reducible repeat (first | apply Kd.R_alloc | apply Kd.R_drewN | apply Kd.R_drew)); exact HO24.out) hb)
      have n4_ := Aside0.mk (blk_below (g := gb1) (o := .cells #[.int .u32 a0_0, .int .i64 a0_1, .slice A0_2 l0_2.length c0_2, .slice A0_3 l0_3.length c0_3, .int .u32 a0_4, .int .u32 a0_5, .int .i64 a0_6, .int .u32 a0_7] 38 (0, 0)) (by (with_reducible repeat (first | refine blk_drewN ?_ _ | refine blk_drew ?_ | refine blk_alloc ?_ _)); exact BK1.out) hb)
      have n5_ := Aside0.mk (blk_below (g := gb16) (o := .cells #[.int .u32 t4, .int .i64 t5, .slice Ao51 t6.length co51, .slice Ao52 t9.length co52, .int .u32 t12, .int .u32 t13, .int .i64 t14, .int .u32 t15] 38 (0, 0)) (by (with_reducible repeat (first | refine blk_drewN ?_ _ | refine blk_drew ?_ | refine blk_alloc ?_ _)); exact BK16.out) hb)
      have n6_ := Aside0.mk (below_step (by repeat (first | (with_reducible first | exact HB.out | apply below_alloc | apply pw_below_drewN | apply below_drew1 | refine below_set ?_ GE1.out | refine below_set ?_ GE16.out) | exact HB.out)) hb)
      clear HO8
      clear HO11
      clear HO21
      clear HO24
      clear BK1
      clear BK16
      clear HB
      have HO8 := n0_
      have HO11 := n1_
      have HO21 := n2_
      have HO24 := n3_
      have BK1 := n4_
      have BK16 := n5_
      have HB := n6_
      clear n0_ n1_ n2_ n3_ n4_ n5_ n6_
      (try clear hb)
      (try clear hb2)
      (try clear hk)
      (try clear hi)
      refine hK.out _ _ ⟨(blk_cell BK16.out 0).trans rfl, (blk_cell BK16.out 1).trans rfl, (blk_cell BK16.out 2).trans rfl, (blk_cell BK16.out 3).trans rfl, (blk_cell BK16.out 4).trans rfl, (blk_cell BK16.out 5).trans rfl, (blk_cell BK16.out 6).trans rfl, (blk_cell BK16.out 7).trans rfl, (blk_cell BK1.out 0).trans rfl, (blk_cell BK1.out 1).trans rfl, (blk_cell BK1.out 2).trans rfl, (blk_cell BK1.out 3).trans rfl, (blk_cell BK1.out 4).trans rfl, (blk_cell BK1.out 5).trans rfl, (blk_cell BK1.out 6).trans rfl, (blk_cell BK1.out 7).trans rfl⟩ (fun hHeld => ?_)
      clear hK K
      refine norm_ (a' := ?_) ?_ ?_
      rotate_left
      ·
       show Act.put _ (some 21) _ = _
       simp only [Act.put, List.setIfInBounds_toArray, List.set_cons_zero, List.set_cons_succ, i64_w, i32_w, IntKind.wrap_u32]
       rfl
      refine pure_ (i := 12) (N := some 22) (v := ?_) (a' := ?_) #[true, true, true, true, true, true, true, true, true, true, true, true, true, false, false] rfl rfl (any_of HT_.out (by kernel_rfl)) (fun _ _ _ h => h) (Or.inl ⟨by rfl, ?_⟩) ?_ ?_
      rotate_left
      ·
       intro w'
       go_simp
       with_reducible rfl
      rotate_left
      ·
       simp only [Act.put, List.setIfInBounds_toArray, List.set_cons_zero, List.set_cons_succ, i64_w, i32_w, IntKind.wrap_u32]
       rfl
      refine pure_ (i := 13) (N := some 23) (v := ?_) (a' := ?_) #[true, true, true, true, true, true, true, true, true, true, true, true, true, true, false] rfl rfl (any_of HT_.out (by kernel_rfl)) (fun _ _ _ h => h) (Or.inl ⟨by rfl, ?_⟩) ?_ ?_
      rotate_left
      ·
       intro w'
       go_simp
       with_reducible rfl
      rotate_left
      ·
       simp only [Act.put, List.setIfInBounds_toArray, List.set_cons_zero, List.set_cons_succ, i64_w, i32_w, IntKind.wrap_u32]
       rfl
      refine pure_ (i := 14) (N := some 24) (v := ?_) (a' := ?_) #[true, true, true, true, true, true, true, true, true, true, true, true, true, true, true] rfl rfl (any_of HT_.out (by kernel_rfl)) (fun _ _ _ h => h) (Or.inl ⟨by rfl, ?_⟩) ?_ ?_
      rotate_left
      ·
       intro w'
       go_simp
       with_reducible rfl
      rotate_left
      ·
       simp only [Act.put, List.setIfInBounds_toArray, List.set_cons_zero, List.set_cons_succ, i64_w, i32_w, IntKind.wrap_u32]
       rfl
      refine done_ (done_of HT_.out (by kernel_rfl)) ?_
      try go_wp2
      go_ret
      exact ⟨by first | rfl | (simp [errW_none, errW_some] <;> rfl) | (simp [*, errW_none, errW_some] <;> rfl), by repeat (first | (with_reducible first | exact HB.out | apply below_alloc | apply pw_below_drewN | apply below_drew1 | refine below_set ?_ GE1.out | refine below_set ?_ GE16.out) | exact HB.out)⟩
    ·
     replace c15 := Bool.eq_false_iff.mpr c15
     subst c15
     have H1 : ((q4z.f k t4 t5 ([] : List Int) t9 t12 t13 1 t15).bind fun t33 => (some (t33 == (decide ((t9.length : Int) ≤ 255))))) = some r := by rw [if_neg (show ¬ (false = true) by decide)] at H; exact H
     clear H
     have H := H1
     clear H1
     replace H := Option.bind_eq_some_iff.mp H
     obtain ⟨t33, A610, H⟩ := H
     replace H : (some (t33 == (decide ((t9.length : Int) ≤ 255)))) = some r := H
     have A61 := Aside0.mk A610
     clear A610
     obtain rfl := Option.some.inj H
     go_enter Try.func10, Try.ntmps10
     try go_wp2_with (first | ((with_reducible refine gate_dst (N := 1) rfl ?_); refine box_event ?hg (N := 1) ?hd (cs := #[.int .u32 a0_0, .int .i64 a0_1, .slice A0_2 l0_2.length c0_2, .slice A0_3 l0_3.length c0_3, .int .u32 a0_4, .int .u32 a0_5, .int .i64 a0_6, .int .u32 a0_7]) (t := 38) ?hr ?_; (case hd => rfl); (case hg => rfl); (case hr => first | (go_simp; done) | (go_simp; rfl)); intro gb1 hg w62 hbox hb; have n0_ := Aside0.mk (below_step (by repeat (first | (with_reducible first | exact HB.out | apply below_alloc | apply pw_below_drewN | apply below_drew1) | exact HB.out)) hb); have n1_ := Aside0.mk (hbox); have n2_ := Aside0.mk ((by rw [hg]; exact (below_size (by repeat (first | (with_reducible first | exact HB.out | apply below_alloc | apply pw_below_drewN | apply below_drew1) | exact HB.out))) : w.heap.size ≤ gb1)); have n3_ := Aside0.mk ((by rw [hg]; exact (below_size (by repeat (first | (with_reducible first | exact HB.out | apply below_alloc | apply pw_below_drewN | apply below_drew1) | exact HB.out))) : w.heap.size ≤ gb1)); clear HB; have HB := n0_; have BK1 := n1_; have GW1 := n2_; have GE1 := n3_; clear n0_ n1_ n2_ n3_; clear hb hbox hg) | ((with_reducible refine gate_callee (f := 29) rfl ?_); refine goesL_ (some 4) rfl rfl Try.func29 (by kernel_rfl) rfl #[] rfl (by (try simp only [List.map_toArray, List.map_cons, List.map_nil]); first | done | rfl | (simp only [List.length_drop, List.length_take]; rfl)) ?_; (with_reducible refine (q15z.calls k  true _ A2.out).mono ?_); rintro e w63 ⟨rfl, hb⟩; refine ⟨_, rfl, ?_⟩; have n0_ := Aside0.mk (blk_below (g := gb1) (o := .cells #[.int .u32 a0_0, .int .i64 a0_1, .slice A0_2 l0_2.length c0_2, .slice A0_3 l0_3.length c0_3, .int .u32 a0_4, .int .u32 a0_5, .int .i64 a0_6, .int .u32 a0_7] 38 (0, 0)) (by (with_reducible repeat (first | refine blk_drewN ?_ _ | refine blk_drew ?_ | refine blk_alloc ?_ _)); exact BK1.out) hb); have n1_ := Aside0.mk (below_step (by repeat (first | (with_reducible first | exact HB.out | apply below_alloc | apply pw_below_drewN | apply below_drew1 | refine below_set ?_ GE1.out) | exact HB.out)) hb); clear BK1; clear HB; have BK1 := n0_; have HB := n1_; clear n0_ n1_; (try clear hb); (try clear hb2); (try clear hk); (try clear hi); have hcz64_0 : w63.cell? ⟨gb1, 0, none⟩ = some (.int .u32 a0_0) := (blk_cell BK1.out 0).trans rfl; have hcz64_1 : w63.cell? ⟨gb1, 1, none⟩ = some (.int .i64 a0_1) := (blk_cell BK1.out 1).trans rfl; have hcz64_2 : w63.cell? ⟨gb1, 2, none⟩ = some (.slice A0_2 l0_2.length c0_2) := (blk_cell BK1.out 2).trans rfl; have hcz64_3 : w63.cell? ⟨gb1, 3, none⟩ = some (.slice A0_3 l0_3.length c0_3) := (blk_cell BK1.out 3).trans rfl; have hcz64_4 : w63.cell? ⟨gb1, 4, none⟩ = some (.int .u32 a0_4) := (blk_cell BK1.out 4).trans rfl; have hcz64_5 : w63.cell? ⟨gb1, 5, none⟩ = some (.int .u32 a0_5) := (blk_cell BK1.out 5).trans rfl; have hcz64_6 : w63.cell? ⟨gb1, 6, none⟩ = some (.int .i64 a0_6) := (blk_cell BK1.out 6).trans rfl; have hcz64_7 : w63.cell? ⟨gb1, 7, none⟩ = some (.int .u32 a0_7) := (blk_cell BK1.out 7).trans rfl; have hfz64_0 := blk_frozen BK1.out 0; have hfz64_1 := blk_frozen BK1.out 1; have hfz64_2 := blk_frozen BK1.out 2; have hfz64_3 := blk_frozen BK1.out 3; have hfz64_4 := blk_frozen BK1.out 4; have hfz64_5 := blk_frozen BK1.out 5; have hfz64_6 := blk_frozen BK1.out 6; have hfz64_7 := blk_frozen BK1.out 7) | ((with_reducible refine gate_callee (f := 34) rfl ?_); refine goesL_ (some 7) rfl rfl Try.func34 (by kernel_rfl) rfl #[.agg #[.int .u32 a0_0, .int .i64 a0_1, .slice A0_2 l0_2.length c0_2, .slice A0_3 l0_3.length c0_3, .int .u32 a0_4, .int .u32 a0_5, .int .i64 a0_6, .int .u32 a0_7]] rfl (by (try simp only [List.map_toArray, List.map_cons, List.map_nil]); first | done | rfl | (simp only [List.length_drop, List.length_take]; rfl)) ?_; (with_reducible refine (q16z.calls a0_0 a0_1 _ _ l0_2 _ _ l0_3 a0_4 a0_5 a0_6 a0_7 false _ ?side1 ?side2 ?side3 ?side4 A4.out).mono ?_); (case side1 => repeat (first | exact (Kd.C_below HR0_2.out HB.out) | (with_reducible refine Kd.C_alloc ?_ _) | (with_reducible refine Kd.C_drewN ?_ _) | (with_reducible refine Kd.C_drew ?_))); (case side2 => exact HC0_2.out); (case side3 => repeat (first | exact (Kd.C_below HR0_3.out HB.out) | (with_reducible refine Kd.C_alloc ?_ _) | (with_reducible refine Kd.C_drewN ?_ _) | (with_reducible refine Kd.C_drew ?_))); (case side4 => exact HC0_3.out); rintro e w65 ⟨rfl, hb⟩; refine ⟨_, rfl, ?_⟩; have n0_ := Aside0.mk (blk_below (g := gb1) (o := .cells #[.int .u32 a0_0, .int .i64 a0_1, .slice A0_2 l0_2.length c0_2, .slice A0_3 l0_3.length c0_3, .int .u32 a0_4, .int .u32 a0_5, .int .i64 a0_6, .int .u32 a0_7] 38 (0, 0)) (by (with_reducible repeat (first | refine blk_drewN ?_ _ | refine blk_drew ?_ | refine blk_alloc ?_ _)); exact BK1.out) hb); have n1_ := Aside0.mk (below_step (by repeat (first | (with_reducible first | exact HB.out | apply below_alloc | apply pw_below_drewN | apply below_drew1 | refine below_set ?_ GE1.out) | exact HB.out)) hb); clear BK1; clear HB; have BK1 := n0_; have HB := n1_; clear n0_ n1_; (try clear hb); (try clear hb2); (try clear hk); (try clear hi); have hcz66_0 : w65.cell? ⟨gb1, 0, none⟩ = some (.int .u32 a0_0) := (blk_cell BK1.out 0).trans rfl; have hcz66_1 : w65.cell? ⟨gb1, 1, none⟩ = some (.int .i64 a0_1) := (blk_cell BK1.out 1).trans rfl; have hcz66_2 : w65.cell? ⟨gb1, 2, none⟩ = some (.slice A0_2 l0_2.length c0_2) := (blk_cell BK1.out 2).trans rfl; have hcz66_3 : w65.cell? ⟨gb1, 3, none⟩ = some (.slice A0_3 l0_3.length c0_3) := (blk_cell BK1.out 3).trans rfl; have hcz66_4 : w65.cell? ⟨gb1, 4, none⟩ = some (.int .u32 a0_4) := (blk_cell BK1.out 4).trans rfl; have hcz66_5 : w65.cell? ⟨gb1, 5, none⟩ = some (.int .u32 a0_5) := (blk_cell BK1.out 5).trans rfl; have hcz66_6 : w65.cell? ⟨gb1, 6, none⟩ = some (.int .i64 a0_6) := (blk_cell BK1.out 6).trans rfl; have hcz66_7 : w65.cell? ⟨gb1, 7, none⟩ = some (.int .u32 a0_7) := (blk_cell BK1.out 7).trans rfl; have hfz66_0 := blk_frozen BK1.out 0; have hfz66_1 := blk_frozen BK1.out 1; have hfz66_2 := blk_frozen BK1.out 2; have hfz66_3 := blk_frozen BK1.out 3; have hfz66_4 := blk_frozen BK1.out 4; have hfz66_5 := blk_frozen BK1.out 5; have hfz66_6 := blk_frozen BK1.out 6; have hfz66_7 := blk_frozen BK1.out 7) | ((with_reducible refine gate_callee (f := 36) rfl ?_); refine goesL_ (some 9) rfl rfl Try.func36 (by kernel_rfl) rfl #[.agg #[.int .u32 a0_0, .int .i64 a0_1, .slice A0_2 l0_2.length c0_2, .slice A0_3 l0_3.length c0_3, .int .u32 a0_4, .int .u32 a0_5, .int .i64 a0_6, .int .u32 a0_7]] rfl (by (try simp only [List.map_toArray, List.map_cons, List.map_nil]); first | done | rfl | (simp only [List.length_drop, List.length_take]; rfl)) ?_; (with_reducible refine (q6z.calls k a0_0 a0_1 _ _ l0_2 _ _ l0_3 a0_4 a0_5 a0_6 a0_7 t4 t5 t6 t9 t12 t13 t14 t15 _ ?side1 ?side2 ?side3 ?side4 A10.out).mono ?_); (case side1 => repeat (first | exact (Kd.C_below HR0_2.out HB.out) | (with_reducible refine Kd.C_alloc ?_ _) | (with_reducible refine Kd.C_drewN ?_ _) | (with_reducible refine Kd.C_drew ?_))); (case side2 => exact HC0_2.out); (case side3 => repeat (first | exact (Kd.C_below HR0_3.out HB.out) | (with_reducible refine Kd.C_alloc ?_ _) | (with_reducible refine Kd.C_drewN ?_ _) | (with_reducible refine Kd.C_drew ?_))); (case side4 => exact HC0_3.out); rintro e w67 ⟨v7, v10, rfl, ho0, ho1, hb⟩; refine ⟨_, rfl, ?_⟩; have n0_ := Aside0.mk (Kd.R_lower ho0 (below_size (by repeat (first | (with_reducible first | exact HB.out | apply below_alloc | apply pw_below_drewN | apply below_drew1 | refine below_set ?_ GE1.out) | exact HB.out)))); have n1_ := Aside0.mk (Kd.R_lower ho1 (below_size (by repeat (first | (with_reducible first | exact HB.out | apply below_alloc | apply pw_below_drewN | apply below_drew1 | refine below_set ?_ GE1.out) | exact HB.out)))); have n2_ := Aside0.mk (blk_below (g := gb1) (o := .cells #[.int .u32 a0_0, .int .i64 a0_1, .slice A0_2 l0_2.length c0_2, .slice A0_3 l0_3.length c0_3, .int .u32 a0_4, .int .u32 a0_5, .int .i64 a0_6, .int .u32 a0_7] 38 (0, 0)) (by (with_reducible repeat (first | refine blk_drewN ?_ _ | refine blk_drew ?_ | refine blk_alloc ?_ _)); exact BK1.out) hb); have n3_ := Aside0.mk (below_step (by repeat (first | (with_reducible first | exact HB.out | apply below_alloc | apply pw_below_drewN | apply below_drew1 | refine below_set ?_ GE1.out) | exact HB.out)) hb); clear BK1; clear HB; have HO8 := n0_; have HO11 := n1_; have BK1 := n2_; have HB := n3_; clear n0_ n1_ n2_ n3_; (try clear hb); (try clear hb2); (try clear hk); (try clear hi); (try clear ho0); (try clear ho1)) | ((with_reducible refine gate_dst (N := 3) rfl ?_); refine box_event ?hg (N := 3) ?hd (cs := #[.int .u32 0, .int .i64 0, .slice none 0 0, .slice none 0 0, .int .u32 0, .int .u32 0, .int .i64 0, .int .u32 0]) (t := 38) ?hr ?_; (case hd => rfl); (case hg => rfl); (case hr => first | (go_simp; done) | (go_simp; rfl)); intro gb16 hg w68 hbox hb; have n0_ := Aside0.mk (Kd.R_below (by (with_reducible repeat (first | apply Kd.R_alloc | apply Kd.R_drewN | apply Kd.R_drew)); exact HO8.out) hb); have n1_ := Aside0.mk (Kd.R_below (by (with_reducible repeat (first | apply Kd.R_alloc | apply Kd.R_drewN | apply Kd.R_drew)); exact HO11.out) hb); have n2_ := Aside0.mk (blk_below (g := gb1) (o := .cells #[.int .u32 a0_0, .int .i64 a0_1, .slice A0_2 l0_2.length c0_2, .slice A0_3 l0_3.length c0_3, .int .u32 a0_4, .int .u32 a0_5, .int .i64 a0_6, .int .u32 a0_7] 38 (0, 0)) (by (with_reducible repeat (first | refine blk_drewN ?_ _ | refine blk_drew ?_ | refine blk_alloc ?_ _)); exact BK1.out) hb); have n3_ := Aside0.mk (below_step (by repeat (first | (with_reducible first | exact HB.out | apply below_alloc | apply pw_below_drewN | apply below_drew1 | refine below_set ?_ GE1.out) | exact HB.out)) hb); have n4_ := Aside0.mk (hbox); have n5_ := Aside0.mk ((by rw [hg]; exact (below_size (by repeat (first | (with_reducible first | exact HB.out | apply below_alloc | apply pw_below_drewN | apply below_drew1 | refine below_set ?_ GE1.out) | exact HB.out))) : w.heap.size ≤ gb16)); have n6_ := Aside0.mk ((by rw [hg]; exact (below_size (by repeat (first | (with_reducible first | exact HB.out | apply below_alloc | apply pw_below_drewN | apply below_drew1 | refine below_set ?_ GE1.out) | exact HB.out))) : w.heap.size ≤ gb16)); have n7_ := Aside0.mk ((by rw [hg]; exact Nat.ne_of_lt (blk_lt (g := gb1) (o := .cells #[.int .u32 a0_0, .int .i64 a0_1, .slice A0_2 l0_2.length c0_2, .slice A0_3 l0_3.length c0_3, .int .u32 a0_4, .int .u32 a0_5, .int .i64 a0_6, .int .u32 a0_7] 38 (0, 0)) (by (with_reducible repeat (first | refine blk_drewN ?_ _ | refine blk_drew ?_ | refine blk_alloc ?_ _)); exact BK1.out)) : gb1 ≠ gb16)); have n8_ := Aside0.mk ((by rw [hg]; exact Nat.ne_of_gt (blk_lt (g := gb1) (o := .cells #[.int .u32 a0_0, .int .i64 a0_1, .slice A0_2 l0_2.length c0_2, .slice A0_3 l0_3.length c0_3, .int .u32 a0_4, .int .u32 a0_5, .int .i64 a0_6, .int .u32 a0_7] 38 (0, 0)) (by (with_reducible repeat (first | refine blk_drewN ?_ _ | refine blk_drew ?_ | refine blk_alloc ?_ _)); exact BK1.out)) : gb16 ≠ gb1)); clear HO8; clear HO11; clear BK1; clear HB; have HO8 := n0_; have HO11 := n1_; have BK1 := n2_; have HB := n3_; have BK16 := n4_; have GW16 := n5_; have GE16 := n6_; have NB1_16 := n7_; have NB16_1 := n8_; clear n0_ n1_ n2_ n3_ n4_ n5_ n6_ n7_ n8_; clear hb hbox hg; have hnb69 := NB16_1.out; have hnc69 := NB1_16.out; have hcz70_0 : w68.cell? ⟨gb16, 0, none⟩ = some (.int .u32 0) := (blk_cell BK16.out 0).trans rfl; have hcz70_1 : w68.cell? ⟨gb16, 1, none⟩ = some (.int .i64 0) := (blk_cell BK16.out 1).trans rfl; have hcz70_2 : w68.cell? ⟨gb16, 2, none⟩ = some (.slice none 0 0) := (blk_cell BK16.out 2).trans rfl; have hcz70_3 : w68.cell? ⟨gb16, 3, none⟩ = some (.slice none 0 0) := (blk_cell BK16.out 3).trans rfl; have hcz70_4 : w68.cell? ⟨gb16, 4, none⟩ = some (.int .u32 0) := (blk_cell BK16.out 4).trans rfl; have hcz70_5 : w68.cell? ⟨gb16, 5, none⟩ = some (.int .u32 0) := (blk_cell BK16.out 5).trans rfl; have hcz70_6 : w68.cell? ⟨gb16, 6, none⟩ = some (.int .i64 0) := (blk_cell BK16.out 6).trans rfl; have hcz70_7 : w68.cell? ⟨gb16, 7, none⟩ = some (.int .u32 0) := (blk_cell BK16.out 7).trans rfl; have hfz70_0 := blk_frozen BK16.out 0; have hfz70_1 := blk_frozen BK16.out 1; have hfz70_2 := blk_frozen BK16.out 2; have hfz70_3 := blk_frozen BK16.out 3; have hfz70_4 := blk_frozen BK16.out 4; have hfz70_5 := blk_frozen BK16.out 5; have hfz70_6 := blk_frozen BK16.out 6; have hfz70_7 := blk_frozen BK16.out 7; obtain ⟨Ao71, co71, eo71⟩ := Kd.R_slice HO8.out; subst eo71; obtain ⟨Ao72, co72, eo72⟩ := Kd.R_slice HO11.out; subst eo72))
     have n0_ : Aside0 (Kd.R (Kd.int .u32) 33 ((((((((w68.setCell ⟨gb16, 0, none⟩ (.int .u32 t4)).setCell ⟨gb16, 1, none⟩ (.int .i64 t5)).setCell ⟨gb16, 2, none⟩ (.slice Ao71 t6.length co71)).setCell ⟨gb16, 3, none⟩ (.slice Ao72 t9.length co72)).setCell ⟨gb16, 4, none⟩ (.int .u32 t12)).setCell ⟨gb16, 5, none⟩ (.int .u32 t13)).setCell ⟨gb16, 6, none⟩ (.int .i64 t14)).setCell ⟨gb16, 7, none⟩ (.int .u32 t15)) w.heap.size (fun k_ => some k_ ≠ (.slice Ao72 t9.length co72 : Value).ownBlock) (.slice Ao71 t6.length co71) t6) := ⟨by (with_reducible repeat (first | apply Kd.R_alloc | apply Kd.R_drewN | apply Kd.R_drew)); exact Kd.R_mono (Kd.R_far (p := ⟨gb16, 7, none⟩) (Kd.R_far (p := ⟨gb16, 6, none⟩) (Kd.R_far (p := ⟨gb16, 5, none⟩) (Kd.R_far (p := ⟨gb16, 4, none⟩) (Kd.R_far (p := ⟨gb16, 3, none⟩) (Kd.R_far (p := ⟨gb16, 2, none⟩) (Kd.R_far (p := ⟨gb16, 1, none⟩) (Kd.R_far (p := ⟨gb16, 0, none⟩) (Kd.R_types HO8.out BK16.out (by decide)) (fun _ hk => hk.2) (.int .u32 t4)) (fun _ hk => hk.2) (.int .i64 t5)) (fun _ hk => hk.2) (.slice Ao71 t6.length co71)) (fun _ hk => hk.2) (.slice Ao72 t9.length co72)) (fun _ hk => hk.2) (.int .u32 t12)) (fun _ hk => hk.2) (.int .u32 t13)) (fun _ hk => hk.2) (.int .i64 t14)) (fun _ hk => hk.2) (.int .u32 t15)) (fun _ hk => hk.1)⟩
     have n1_ : Aside0 (Kd.R (Kd.int .u32) 33 ((((((((w68.setCell ⟨gb16, 0, none⟩ (.int .u32 t4)).setCell ⟨gb16, 1, none⟩ (.int .i64 t5)).setCell ⟨gb16, 2, none⟩ (.slice Ao71 t6.length co71)).setCell ⟨gb16, 3, none⟩ (.slice Ao72 t9.length co72)).setCell ⟨gb16, 4, none⟩ (.int .u32 t12)).setCell ⟨gb16, 5, none⟩ (.int .u32 t13)).setCell ⟨gb16, 6, none⟩ (.int .i64 t14)).setCell ⟨gb16, 7, none⟩ (.int .u32 t15)) w.heap.size (fun k_ => some k_ ≠ (.slice Ao71 t6.length co71 : Value).ownBlock) (.slice Ao72 t9.length co72) t9) := ⟨by (with_reducible repeat (first | apply Kd.R_alloc | apply Kd.R_drewN | apply Kd.R_drew)); exact Kd.R_mono (Kd.R_far (p := ⟨gb16, 7, none⟩) (Kd.R_far (p := ⟨gb16, 6, none⟩) (Kd.R_far (p := ⟨gb16, 5, none⟩) (Kd.R_far (p := ⟨gb16, 4, none⟩) (Kd.R_far (p := ⟨gb16, 3, none⟩) (Kd.R_far (p := ⟨gb16, 2, none⟩) (Kd.R_far (p := ⟨gb16, 1, none⟩) (Kd.R_far (p := ⟨gb16, 0, none⟩) (Kd.R_types HO11.out BK16.out (by decide)) (fun _ hk => hk.2) (.int .u32 t4)) (fun _ hk => hk.2) (.int .i64 t5)) (fun _ hk => hk.2) (.slice Ao71 t6.length co71)) (fun _ hk => hk.2) (.slice Ao72 t9.length co72)) (fun _ hk => hk.2) (.int .u32 t12)) (fun _ hk => hk.2) (.int .u32 t13)) (fun _ hk => hk.2) (.int .i64 t14)) (fun _ hk => hk.2) (.int .u32 t15)) (fun _ hk => hk.1)⟩
     have n2_ : Aside0 (((((((((w68.setCell ⟨gb16, 0, none⟩ (.int .u32 t4)).setCell ⟨gb16, 1, none⟩ (.int .i64 t5)).setCell ⟨gb16, 2, none⟩ (.slice Ao71 t6.length co71)).setCell ⟨gb16, 3, none⟩ (.slice Ao72 t9.length co72)).setCell ⟨gb16, 4, none⟩ (.int .u32 t12)).setCell ⟨gb16, 5, none⟩ (.int .u32 t13)).setCell ⟨gb16, 6, none⟩ (.int .i64 t14)).setCell ⟨gb16, 7, none⟩ (.int .u32 t15)).heap[gb1]? = some (.cells #[.int .u32 a0_0, .int .i64 a0_1, .slice A0_2 l0_2.length c0_2, .slice A0_3 l0_3.length c0_3, .int .u32 a0_4, .int .u32 a0_5, .int .i64 a0_6, .int .u32 a0_7] 38 (0, 0))) := ⟨by (with_reducible repeat (first | refine blk_drewN ?_ _ | refine blk_drew ?_ | refine blk_alloc ?_ _)); refine blk_far ?_ NB1_16.out _; (with_reducible repeat (first | refine blk_drewN ?_ _ | refine blk_drew ?_ | refine blk_alloc ?_ _)); refine blk_far ?_ NB1_16.out _; (with_reducible repeat (first | refine blk_drewN ?_ _ | refine blk_drew ?_ | refine blk_alloc ?_ _)); refine blk_far ?_ NB1_16.out _; (with_reducible repeat (first | refine blk_drewN ?_ _ | refine blk_drew ?_ | refine blk_alloc ?_ _)); refine blk_far ?_ NB1_16.out _; (with_reducible repeat (first | refine blk_drewN ?_ _ | refine blk_drew ?_ | refine blk_alloc ?_ _)); refine blk_far ?_ NB1_16.out _; (with_reducible repeat (first | refine blk_drewN ?_ _ | refine blk_drew ?_ | refine blk_alloc ?_ _)); refine blk_far ?_ NB1_16.out _; (with_reducible repeat (first | refine blk_drewN ?_ _ | refine blk_drew ?_ | refine blk_alloc ?_ _)); refine blk_far ?_ NB1_16.out _; (with_reducible repeat (first | refine blk_drewN ?_ _ | refine blk_drew ?_ | refine blk_alloc ?_ _)); refine blk_far ?_ NB1_16.out _; (with_reducible repeat (first | refine blk_drewN ?_ _ | refine blk_drew ?_ | refine blk_alloc ?_ _)); exact BK1.out⟩
     have n3_ : Aside0 (((((((((w68.setCell ⟨gb16, 0, none⟩ (.int .u32 t4)).setCell ⟨gb16, 1, none⟩ (.int .i64 t5)).setCell ⟨gb16, 2, none⟩ (.slice Ao71 t6.length co71)).setCell ⟨gb16, 3, none⟩ (.slice Ao72 t9.length co72)).setCell ⟨gb16, 4, none⟩ (.int .u32 t12)).setCell ⟨gb16, 5, none⟩ (.int .u32 t13)).setCell ⟨gb16, 6, none⟩ (.int .i64 t14)).setCell ⟨gb16, 7, none⟩ (.int .u32 t15)).heap[gb16]? = some (.cells #[.int .u32 t4, .int .i64 t5, .slice Ao71 t6.length co71, .slice Ao72 t9.length co72, .int .u32 t12, .int .u32 t13, .int .i64 t14, .int .u32 t15] 38 (0, 0))) := ⟨by (with_reducible repeat (first | refine blk_drewN ?_ _ | refine blk_drew ?_ | refine blk_alloc ?_ _)); refine blk_put (cs := #[.int .u32 t4, .int .i64 t5, .slice Ao71 t6.length co71, .slice Ao72 t9.length co72, .int .u32 t12, .int .u32 t13, .int .i64 t14, .int .u32 0]) ?_ 7 _ rfl; (with_reducible repeat (first | refine blk_drewN ?_ _ | refine blk_drew ?_ | refine blk_alloc ?_ _)); refine blk_put (cs := #[.int .u32 t4, .int .i64 t5, .slice Ao71 t6.length co71, .slice Ao72 t9.length co72, .int .u32 t12, .int .u32 t13, .int .i64 0, .int .u32 0]) ?_ 6 _ rfl; (with_reducible repeat (first | refine blk_drewN ?_ _ | refine blk_drew ?_ | refine blk_alloc ?_ _)); refine blk_put (cs := #[.int .u32 t4, .int .i64 t5, .slice Ao71 t6.length co71, .slice Ao72 t9.length co72, .int .u32 t12, .int .u32 0, .int .i64 0, .int .u32 0]) ?_ 5 _ rfl; (with_reducible repeat (first | refine blk_drewN ?_ _ | refine blk_drew ?_ | refine blk_alloc ?_ _)); refine blk_put (cs := #[.int .u32 t4, .int .i64 t5, .slice Ao71 t6.length co71, .slice Ao72 t9.length co72, .int .u32 0, .int .u32 0, .int .i64 0, .int .u32 0]) ?_ 4 _ rfl; (with_reducible repeat (first | refine blk_drewN ?_ _ | refine blk_drew ?_ | refine blk_alloc ?_ _)); refine blk_put (cs := #[.int .u32 t4, .int .i64 t5, .slice Ao71 t6.length co71, .slice none 0 0, .int .u32 0, .int .u32 0, .int .i64 0, .int .u32 0]) ?_ 3 _ rfl; (with_reducible repeat (first | refine blk_drewN ?_ _ | refine blk_drew ?_ | refine blk_alloc ?_ _)); refine blk_put (cs := #[.int .u32 t4, .int .i64 t5, .slice none 0 0, .slice none 0 0, .int .u32 0, .int .u32 0, .int .i64 0, .int .u32 0]) ?_ 2 _ rfl; (with_reducible repeat (first | refine blk_drewN ?_ _ | refine blk_drew ?_ | refine blk_alloc ?_ _)); refine blk_put (cs := #[.int .u32 t4, .int .i64 0, .slice none 0 0, .slice none 0 0, .int .u32 0, .int .u32 0, .int .i64 0, .int .u32 0]) ?_ 1 _ rfl; (with_reducible repeat (first | refine blk_drewN ?_ _ | refine blk_drew ?_ | refine blk_alloc ?_ _)); refine blk_put (cs := #[.int .u32 0, .int .i64 0, .slice none 0 0, .slice none 0 0, .int .u32 0, .int .u32 0, .int .i64 0, .int .u32 0]) ?_ 0 _ rfl; (with_reducible repeat (first | refine blk_drewN ?_ _ | refine blk_drew ?_ | refine blk_alloc ?_ _)); exact BK16.out⟩
     have n4_ : Aside0 (Below w.heap.size w ((((((((w68.setCell ⟨gb16, 0, none⟩ (.int .u32 t4)).setCell ⟨gb16, 1, none⟩ (.int .i64 t5)).setCell ⟨gb16, 2, none⟩ (.slice Ao71 t6.length co71)).setCell ⟨gb16, 3, none⟩ (.slice Ao72 t9.length co72)).setCell ⟨gb16, 4, none⟩ (.int .u32 t12)).setCell ⟨gb16, 5, none⟩ (.int .u32 t13)).setCell ⟨gb16, 6, none⟩ (.int .i64 t14)).setCell ⟨gb16, 7, none⟩ (.int .u32 t15))) := ⟨by repeat (first | (with_reducible first | exact HB.out | apply below_alloc | apply pw_below_drewN | apply below_drew1 | refine below_set ?_ GE1.out | refine below_set ?_ GE16.out) | exact HB.out)⟩
     (try clear HO8)
     (try clear HO11)
     (try clear BK1)
     (try clear BK16)
     (try clear HB)
     generalize ((((((((w68.setCell ⟨gb16, 0, none⟩ (.int .u32 t4)).setCell ⟨gb16, 1, none⟩ (.int .i64 t5)).setCell ⟨gb16, 2, none⟩ (.slice Ao71 t6.length co71)).setCell ⟨gb16, 3, none⟩ (.slice Ao72 t9.length co72)).setCell ⟨gb16, 4, none⟩ (.int .u32 t12)).setCell ⟨gb16, 5, none⟩ (.int .u32 t13)).setCell ⟨gb16, 6, none⟩ (.int .i64 t14)).setCell ⟨gb16, 7, none⟩ (.int .u32 t15)) = w73 at n0_ n1_ n2_ n3_ n4_ ⊢
     have HO8 := n0_
     have HO11 := n1_
     have BK1 := n2_
     have BK16 := n3_
     have HB := n4_
     clear n0_ n1_ n2_ n3_ n4_
     have n0_ := Aside0.mk (Kd.R_drew HO8.out)
     have n1_ := Aside0.mk (Kd.R_drew HO11.out)
     have n2_ := Aside0.mk (blk_drew BK1.out)
     have n3_ := Aside0.mk (blk_drew BK16.out)
     have n4_ := Aside0.mk (below_drew1 HB.out)
     clear HO8
     clear HO11
     clear BK1
     clear BK16
     clear HB
     have HO8 := n0_
     have HO11 := n1_
     have BK1 := n2_
     have BK16 := n3_
     have HB := n4_
     clear n0_ n1_ n2_ n3_ n4_
     refine start_ (n := 15) (S := fun w' => w'.cell? ⟨gb16, 0, none⟩ = some (.int .u32 t4) ∧ w'.cell? ⟨gb16, 1, none⟩ = some (.int .i64 t5) ∧ w'.cell? ⟨gb16, 2, none⟩ = some (.slice Ao71 t6.length co71) ∧ w'.cell? ⟨gb16, 3, none⟩ = some (.slice Ao72 t9.length co72) ∧ w'.cell? ⟨gb16, 4, none⟩ = some (.int .u32 t12) ∧ w'.cell? ⟨gb16, 5, none⟩ = some (.int .u32 t13) ∧ w'.cell? ⟨gb16, 6, none⟩ = some (.int .i64 t14) ∧ w'.cell? ⟨gb16, 7, none⟩ = some (.int .u32 t15) ∧ w'.cell? ⟨gb1, 0, none⟩ = some (.int .u32 a0_0) ∧ w'.cell? ⟨gb1, 1, none⟩ = some (.int .i64 a0_1) ∧ w'.cell? ⟨gb1, 2, none⟩ = some (.slice A0_2 l0_2.length c0_2) ∧ w'.cell? ⟨gb1, 3, none⟩ = some (.slice A0_3 l0_3.length c0_3) ∧ w'.cell? ⟨gb1, 4, none⟩ = some (.int .u32 a0_4) ∧ w'.cell? ⟨gb1, 5, none⟩ = some (.int .u32 a0_5) ∧ w'.cell? ⟨gb1, 6, none⟩ = some (.int .i64 a0_6) ∧ w'.cell? ⟨gb1, 7, none⟩ = some (.int .u32 a0_7)) (ds := []) #[false, false, false, false, false, false, false, false, false, false, false, false, false, false, false] (by kernel_rfl) rfl rfl ⟨(blk_cell BK16.out 0).trans rfl, (blk_cell BK16.out 1).trans rfl, (blk_cell BK16.out 2).trans rfl, (blk_cell BK16.out 3).trans rfl, (blk_cell BK16.out 4).trans rfl, (blk_cell BK16.out 5).trans rfl, (blk_cell BK16.out 6).trans rfl, (blk_cell BK16.out 7).trans rfl, (blk_cell BK1.out 0).trans rfl, (blk_cell BK1.out 1).trans rfl, (blk_cell BK1.out 2).trans rfl, (blk_cell BK1.out 3).trans rfl, (blk_cell BK1.out 4).trans rfl, (blk_cell BK1.out 5).trans rfl, (blk_cell BK1.out 6).trans rfl, (blk_cell BK1.out 7).trans rfl⟩ (fun hHeld => ?_); refine with_tabW q17z.tab6 q17z.bits6 (fun HT_ HW_ => ?_)
     generalize w73.drew = w74 at HO8 HO11 BK1 BK16 HB hHeld ⊢
     refine take_ (i := 0) (N := some 10) (v := ?_) (a' := ?_) #[true, false, false, false, false, false, false, false, false, false, false, false, false, false, false] rfl rfl (take_ofW HT_.out HW_.out (by kernel_rfl)) (fun _ _ _ h => h) (Or.inl ⟨by rfl, ?_⟩) hHeld ?_ ?_
     rotate_left
     ·
      rintro w' ⟨s0, s1, s2, s3, s4, s5, s6, s7, s8, s9, s10, s11, s12, s13, s14, s15⟩
      go_simp
      with_reducible rfl
     rotate_left
     ·
      simp only [Act.put, List.setIfInBounds_toArray, List.set_cons_zero, List.set_cons_succ, i64_w, i32_w, IntKind.wrap_u32]
      rfl
     refine take_ (i := 2) (N := some 12) (v := ?_) (a' := ?_) #[true, false, true, false, false, false, false, false, false, false, false, false, false, false, false] rfl rfl (take_ofW HT_.out HW_.out (by kernel_rfl)) (fun _ _ _ h => h) (Or.inl ⟨by rfl, ?_⟩) hHeld ?_ ?_
     rotate_left
     ·
      rintro w' ⟨s0, s1, s2, s3, s4, s5, s6, s7, s8, s9, s10, s11, s12, s13, s14, s15⟩
      go_simp
      with_reducible rfl
     rotate_left
     ·
      simp only [Act.put, List.setIfInBounds_toArray, List.set_cons_zero, List.set_cons_succ, i64_w, i32_w, IntKind.wrap_u32]
      rfl
     refine one_ (i := 1) (N := some 11) #[true, true, true, false, false, false, false, false, false, false, false, false, false, false, false] rfl rfl (one_of HT_.out (by kernel_rfl)) (by decide) (fun K hK => ?_)
     refine goes_ Try.func36 (by kernel_rfl) rfl #[.agg #[.int .u32 t4, .int .i64 t5, .slice Ao71 t6.length co71, .slice Ao72 t9.length co72, .int .u32 t12, .int .u32 t13, .int .i64 t14, .int .u32 t15]] (by rfl) rfl rfl (by (try simp only [List.map_toArray, List.map_cons, List.map_nil]); first | done | rfl | (simp only [List.length_drop, List.length_take]; rfl)) ?_
     with_reducible refine (q6z.calls k t4 t5 _ _ t6 _ _ t9 t12 t13 t14 t15 t17 t18 t19 t22 t25 t26 t27 t28 _ ?side1 ?side2 ?side3 ?side4 A11.out).mono ?_
     (case side1 => repeat (first | exact (Kd.R_reads' HO8.out).2.2 | (with_reducible refine Kd.C_alloc ?_ _) | (with_reducible refine Kd.C_drewN ?_ _) | (with_reducible refine Kd.C_drew ?_)))
     (case side2 => exact (Kd.R_reads' HO8.out).2.1)
     (case side3 => repeat (first | exact (Kd.R_reads' HO11.out).2.2 | (with_reducible refine Kd.C_alloc ?_ _) | (with_reducible refine Kd.C_drewN ?_ _) | (with_reducible refine Kd.C_drew ?_)))
     (case side4 => exact (Kd.R_reads' HO11.out).2.1)
     rintro e w75 ⟨v20, v23, rfl, ho0, ho1, hb⟩
     refine ⟨_, rfl, ?_⟩
     have n0_ := Aside0.mk (Kd.R_mono (Kd.R_told (Kd.R_told (Kd.R_old (by (with_reducible repeat (first | apply Kd.R_alloc | apply Kd.R_drewN | apply Kd.R_drew)); exact HO8.out) hb) (Kd.R_base ho0)) (Kd.R_base ho1)) (fun _ h_ => h_.1))
     have n1_ := Aside0.mk (Kd.R_mono (Kd.R_told (Kd.R_told (Kd.R_old (by (with_reducible repeat (first | apply Kd.R_alloc | apply Kd.R_drewN | apply Kd.R_drew)); exact HO11.out) hb) (Kd.R_base ho0)) (Kd.R_base ho1)) (fun _ h_ => h_.1))
     have n2_ := Aside0.mk (Kd.R_lower (Kd.R_new' (Kd.R_new' ho0 (Kd.R_lt (by (with_reducible repeat (first | apply Kd.R_alloc | apply Kd.R_drewN | apply Kd.R_drew)); exact HO8.out))) (Kd.R_lt (by (with_reducible repeat (first | apply Kd.R_alloc | apply Kd.R_drewN | apply Kd.R_drew)); exact HO11.out))) (below_size (by repeat (first | (with_reducible first | exact HB.out | apply below_alloc | apply pw_below_drewN | apply below_drew1 | refine below_set ?_ GE1.out | refine below_set ?_ GE16.out) | exact HB.out))))
     have n3_ := Aside0.mk (Kd.R_lower (Kd.R_new' (Kd.R_new' ho1 (Kd.R_lt (by (with_reducible repeat (first | apply Kd.R_alloc | apply Kd.R_drewN | apply Kd.R_drew)); exact HO8.out))) (Kd.R_lt (by (with_reducible repeat (first | apply Kd.R_alloc | apply Kd.R_drewN | apply Kd.R_drew)); exact HO11.out))) (below_size (by repeat (first | (with_reducible first | exact HB.out | apply below_alloc | apply pw_below_drewN | apply below_drew1 | refine below_set ?_ GE1.out | refine below_set ?_ GE16.out) | exact HB.out))))
     have n4_ := Aside0.mk (blk_below (g := gb1) (o := .cells #[.int .u32 a0_0, .int .i64 a0_1, .slice A0_2 l0_2.length c0_2, .slice A0_3 l0_3.length c0_3, .int .u32 a0_4, .int .u32 a0_5, .int .i64 a0_6, .int .u32 a0_7] 38 (0, 0)) (by (with_reducible repeat (first | refine blk_drewN ?_ _ | refine blk_drew ?_ | refine blk_alloc ?_ _)); exact BK1.out) hb)
     have n5_ := Aside0.mk (blk_below (g := gb16) (o := .cells #[.int .u32 t4, .int .i64 t5, .slice Ao71 t6.length co71, .slice Ao72 t9.length co72, .int .u32 t12, .int .u32 t13, .int .i64 t14, .int .u32 t15] 38 (0, 0)) (by (with_reducible repeat (first | refine blk_drewN ?_ _ | refine blk_drew ?_ | refine blk_alloc ?_ _)); exact BK16.out) hb)
     have n6_ := Aside0.mk (below_step (by repeat (first | (with_reducible first | exact HB.out | apply below_alloc | apply pw_below_drewN | apply below_drew1 | refine below_set ?_ GE1.out | refine below_set ?_ GE16.out) | exact HB.out)) hb)
     clear HO8
     clear HO11
     clear BK1
     clear BK16
     clear HB
     have HO8 := n0_
     have HO11 := n1_
     have HO21 := n2_
     have HO24 := n3_
     have BK1 := n4_
     have BK16 := n5_
     have HB := n6_
     clear n0_ n1_ n2_ n3_ n4_ n5_ n6_
     (try clear hb)
     (try clear hb2)
     (try clear hk)
     (try clear hi)
     (try clear ho0)
     (try clear ho1)
     obtain ⟨Ao76, co76, eo76⟩ := Kd.R_slice HO21.out
     (first | subst eo76 | (injection eo76 with f1_ f2_ f3_; have f4_ := f1_.symm; have f5_ := f3_.symm; clear f1_ f2_ f3_; subst f4_; subst f5_))
     obtain ⟨Ao77, co77, eo77⟩ := Kd.R_slice HO24.out
     (first | subst eo77 | (injection eo77 with f1_ f2_ f3_; have f4_ := f1_.symm; have f5_ := f3_.symm; clear f1_ f2_ f3_; subst f4_; subst f5_))
     refine hK.out _ _ ⟨(blk_cell BK16.out 0).trans rfl, (blk_cell BK16.out 1).trans rfl, (blk_cell BK16.out 2).trans rfl, (blk_cell BK16.out 3).trans rfl, (blk_cell BK16.out 4).trans rfl, (blk_cell BK16.out 5).trans rfl, (blk_cell BK16.out 6).trans rfl, (blk_cell BK16.out 7).trans rfl, (blk_cell BK1.out 0).trans rfl, (blk_cell BK1.out 1).trans rfl, (blk_cell BK1.out 2).trans rfl, (blk_cell BK1.out 3).trans rfl, (blk_cell BK1.out 4).trans rfl, (blk_cell BK1.out 5).trans rfl, (blk_cell BK1.out 6).trans rfl, (blk_cell BK1.out 7).trans rfl⟩ (fun hHeld => ?_)
     clear hK K
     refine norm_ (a' := ?_) ?_ ?_
     rotate_left
     ·
      show Act.put _ (some 11) _ = _
      simp only [Act.put, List.setIfInBounds_toArray, List.set_cons_zero, List.set_cons_succ, i64_w, i32_w, IntKind.wrap_u32]
      rfl
     refine one_ (i := 3) (N := some 13) #[true, true, true, true, false, false, false, false, false, false, false, false, false, false, false] rfl rfl (one_of HT_.out (by kernel_rfl)) (by decide) (fun K hK => ?_)
     refine goes_ Try.func40 (by kernel_rfl) rfl #[.agg #[.int .u32 t17, .int .i64 t18, .slice Ao76 t19.length co76, .slice Ao77 t22.length co77, .int .u32 t25, .int .u32 t26, .int .i64 t27, .int .u32 t28], .agg #[.int .u32 t4, .int .i64 t5, .slice Ao71 t6.length co71, .slice Ao72 t9.length co72, .int .u32 t12, .int .u32 t13, .int .i64 t14, .int .u32 t15]] (by rfl) rfl rfl (by (try simp only [List.map_toArray, List.map_cons, List.map_nil]); first | done | rfl | (simp only [List.length_drop, List.length_take]; rfl)) ?_
     with_reducible refine (q13z.calls k t17 t18 _ _ t19 _ _ t22 t25 t26 t27 t28 t4 t5 _ _ t6 _ _ t9 t12 t13 t14 t15 t29 _ ?side1 ?side2 ?side3 ?side4 ?side5 ?side6 ?side7 ?side8 A12.out).mono ?_
     (case side1 => repeat (first | exact (Kd.R_reads' HO21.out).2.2 | (with_reducible refine Kd.C_alloc ?_ _) | (with_reducible refine Kd.C_drewN ?_ _) | (with_reducible refine Kd.C_drew ?_)))
     (case side2 => exact (Kd.R_reads' HO21.out).2.1)
     (case side3 => repeat (first | exact (Kd.R_reads' HO24.out).2.2 | (with_reducible refine Kd.C_alloc ?_ _) | (with_reducible refine Kd.C_drewN ?_ _) | (with_reducible refine Kd.C_drew ?_)))
     (case side4 => exact (Kd.R_reads' HO24.out).2.1)
     (case side5 => repeat (first | exact (Kd.R_reads' HO8.out).2.2 | (with_reducible refine Kd.C_alloc ?_ _) | (with_reducible refine Kd.C_drewN ?_ _) | (with_reducible refine Kd.C_drew ?_)))
     (case side6 => exact (Kd.R_reads' HO8.out).2.1)
     (case side7 => repeat (first | exact (Kd.R_reads' HO11.out).2.2 | (with_reducible refine Kd.C_alloc ?_ _) | (with_reducible refine Kd.C_drewN ?_ _) | (with_reducible refine Kd.C_drew ?_)))
     (case side8 => exact (Kd.R_reads' HO11.out).2.1)
     rintro e w78 ⟨rfl, hb⟩
     refine ⟨_, rfl, ?_⟩
     have n0_ := Aside0.mk (Kd.R_below (by (with_reducible repeat (first | apply Kd.R_alloc | apply Kd.R_drewN | apply Kd.R_drew)); exact HO8.out) hb)
     have n1_ := Aside0.mk (Kd.R_below (by (with_reducible repeat (first | apply Kd.R_alloc | apply Kd.R_drewN | apply Kd.R_drew)); exact HO11.out) hb)
     have n2_ := Aside0.mk (Kd.R_below (by (with_reducible repeat (first | apply Kd.R_alloc | apply Kd.R_drewN | apply Kd.R_drew)); exact HO21.out) hb)
     have n3_ := Aside0.mk (Kd.R_below (by (with_reducible repeat (first | apply Kd.R_alloc | apply Kd.R_drewN | apply Kd.R_drew)); exact HO24.out) hb)
     have n4_ := Aside0.mk (blk_below (g := gb1) (o := .cells #[.int .u32 a0_0, .int .i64 a0_1, .slice A0_2 l0_2.length c0_2, .slice A0_3 l0_3.length c0_3, .int .u32 a0_4, .int .u32 a0_5, .int .i64 a0_6, .int .u32 a0_7] 38 (0, 0)) (by (with_reducible repeat (first | refine blk_drewN ?_ _ | refine blk_drew ?_ | refine blk_alloc ?_ _)); exact BK1.out) hb)
     have n5_ := Aside0.mk (blk_below (g := gb16) (o := .cells #[.int .u32 t4, .int .i64 t5, .slice Ao71 t6.length co71, .slice Ao72 t9.length co72, .int .u32 t12, .int .u32 t13, .int .i64 t14, .int .u32 t15] 38 (0, 0)) (by (with_reducible repeat (first | refine blk_drewN ?_ _ | refine blk_drew ?_ | refine blk_alloc ?_ _)); exact BK16.out) hb)
     have n6_ := Aside0.mk (below_step (by repeat (first | (with_reducible first | exact HB.out | apply below_alloc | apply pw_below_drewN | apply below_drew1 | refine below_set ?_ GE1.out | refine below_set ?_ GE16.out) | exact HB.out)) hb)
     clear HO8
     clear HO11
     clear HO21
     clear HO24
     clear BK1
     clear BK16
     clear HB
     have HO8 := n0_
     have HO11 := n1_
     have HO21 := n2_
     have HO24 := n3_
     have BK1 := n4_
     have BK16 := n5_
     have HB := n6_
     clear n0_ n1_ n2_ n3_ n4_ n5_ n6_
     (try clear hb)
     (try clear hb2)
     (try clear hk)
     (try clear hi)
     refine hK.out _ _ ⟨(blk_cell BK16.out 0).trans rfl, (blk_cell BK16.out 1).trans rfl, (blk_cell BK16.out 2).trans rfl, (blk_cell BK16.out 3).trans rfl, (blk_cell BK16.out 4).trans rfl, (blk_cell BK16.out 5).trans rfl, (blk_cell BK16.out 6).trans rfl, (blk_cell BK16.out 7).trans rfl, (blk_cell BK1.out 0).trans rfl, (blk_cell BK1.out 1).trans rfl, (blk_cell BK1.out 2).trans rfl, (blk_cell BK1.out 3).trans rfl, (blk_cell BK1.out 4).trans rfl, (blk_cell BK1.out 5).trans rfl, (blk_cell BK1.out 6).trans rfl, (blk_cell BK1.out 7).trans rfl⟩ (fun hHeld => ?_)
     clear hK K
     refine norm_ (a' := ?_) ?_ ?_
     rotate_left
     ·
      show Act.put _ (some 13) _ = _
      simp only [Act.put, List.setIfInBounds_toArray, List.set_cons_zero, List.set_cons_succ, i64_w, i32_w, IntKind.wrap_u32]
      rfl
     refine pure_ (i := 4) (N := some 14) (v := ?_) (a' := ?_) #[true, true, true, true, true, false, false, false, false, false, false, false, false, false, false] rfl rfl (any_of HT_.out (by kernel_rfl)) (fun _ _ _ h => h) (Or.inl ⟨by rfl, ?_⟩) ?_ ?_
     rotate_left
     ·
      intro w'
      go_simp
      with_reducible rfl
     rotate_left
     ·
      simp only [Act.put, List.setIfInBounds_toArray, List.set_cons_zero, List.set_cons_succ, i64_w, i32_w, IntKind.wrap_u32]
      rfl
     refine pure_ (i := 5) (N := some 15) (v := ?_) (a' := ?_) #[true, true, true, true, true, true, false, false, false, false, false, false, false, false, false] rfl rfl (any_of HT_.out (by kernel_rfl)) (fun _ _ _ h => h) (Or.inl ⟨by rfl, ?_⟩) ?_ ?_
     rotate_left
     ·
      intro w'
      go_simp
      with_reducible rfl
     rotate_left
     ·
      simp only [Act.put, List.setIfInBounds_toArray, List.set_cons_zero, List.set_cons_succ, i64_w, i32_w, IntKind.wrap_u32]
      rfl
     refine take_ (i := 6) (N := some 16) (v := ?_) (a' := ?_) #[true, true, true, true, true, true, true, false, false, false, false, false, false, false, false] rfl rfl (take_ofW HT_.out HW_.out (by kernel_rfl)) (fun _ _ _ h => h) (Or.inl ⟨by rfl, ?_⟩) hHeld ?_ ?_
     rotate_left
     ·
      rintro w' ⟨s0, s1, s2, s3, s4, s5, s6, s7, s8, s9, s10, s11, s12, s13, s14, s15⟩
      go_simp
      with_reducible rfl
     rotate_left
     ·
      simp only [Act.put, List.setIfInBounds_toArray, List.set_cons_zero, List.set_cons_succ, i64_w, i32_w, IntKind.wrap_u32]
      rfl
     refine one_ (i := 7) (N := some 17) #[true, true, true, true, true, true, true, true, false, false, false, false, false, false, false] rfl rfl (one_of HT_.out (by kernel_rfl)) (by decide) (fun K hK => ?_)
     refine goes_ Try.func30 (by kernel_rfl) rfl #[.agg #[.int .u32 a0_0, .int .i64 a0_1, .slice A0_2 l0_2.length c0_2, .slice A0_3 l0_3.length c0_3, .int .u32 a0_4, .int .u32 a0_5, .int .i64 a0_6, .int .u32 a0_7]] (by rfl) rfl rfl (by (try simp only [List.map_toArray, List.map_cons, List.map_nil]); first | done | rfl | (simp only [List.length_drop, List.length_take]; rfl)) ?_
     with_reducible refine (q4z.calls k a0_0 a0_1 _ _ l0_2 _ _ l0_3 a0_4 a0_5 a0_6 a0_7 false _ ?side1 ?side2 ?side3 ?side4 A14.out).mono ?_
     (case side1 => repeat (first | exact (Kd.C_below HR0_2.out HB.out) | (with_reducible refine Kd.C_alloc ?_ _) | (with_reducible refine Kd.C_drewN ?_ _) | (with_reducible refine Kd.C_drew ?_)))
     (case side2 => exact HC0_2.out)
     (case side3 => repeat (first | exact (Kd.C_below HR0_3.out HB.out) | (with_reducible refine Kd.C_alloc ?_ _) | (with_reducible refine Kd.C_drewN ?_ _) | (with_reducible refine Kd.C_drew ?_)))
     (case side4 => exact HC0_3.out)
     rintro e w79 ⟨rfl, hb⟩
     refine ⟨_, rfl, ?_⟩
     have n0_ := Aside0.mk (Kd.R_below (by (with_reducible repeat (first | apply Kd.R_alloc | apply Kd.R_drewN | apply Kd.R_drew)); exact HO8.out) hb)
     have n1_ := Aside0.mk (Kd.R_below (by (with_reducible repeat (first | apply Kd.R_alloc | apply Kd.R_drewN | apply Kd.R_drew)); exact HO11.out) hb)
     have n2_ := Aside0.mk (Kd.R_below (by (with_reducible repeat (first | apply Kd.R_alloc | apply Kd.R_drewN | apply Kd.R_drew)); exact HO21.out) hb)
     have n3_ := Aside0.mk (Kd.R_below (by (with_reducible repeat (first | apply Kd.R_alloc | apply Kd.R_drewN | apply Kd.R_drew)); exact HO24.out) hb)
     have n4_ := Aside0.mk (blk_below (g := gb1) (o := .cells #[.int .u32 a0_0, .int .i64 a0_1, .slice A0_2 l0_2.length c0_2, .slice A0_3 l0_3.length c0_3, .int .u32 a0_4, .int .u32 a0_5, .int .i64 a0_6, .int .u32 a0_7] 38 (0, 0)) (by (with_reducible repeat (first | refine blk_drewN ?_ _ | refine blk_drew ?_ | refine blk_alloc ?_ _)); exact BK1.out) hb)
     have n5_ := Aside0.mk (blk_below (g := gb16) (o := .cells #[.int .u32 t4, .int .i64 t5, .slice Ao71 t6.length co71, .slice Ao72 t9.length co72, .int .u32 t12, .int .u32 t13, .int .i64 t14, .int .u32 t15] 38 (0, 0)) (by (with_reducible repeat (first | refine blk_drewN ?_ _ | refine blk_drew ?_ | refine blk_alloc ?_ _)); exact BK16.out) hb)
     have n6_ := Aside0.mk (below_step (by repeat (first | (with_reducible first | exact HB.out | apply below_alloc | apply pw_below_drewN | apply below_drew1 | refine below_set ?_ GE1.out | refine below_set ?_ GE16.out) | exact HB.out)) hb)
     clear HO8
     clear HO11
     clear HO21
     clear HO24
     clear BK1
     clear BK16
     clear HB
     have HO8 := n0_
     have HO11 := n1_
     have HO21 := n2_
     have HO24 := n3_
     have BK1 := n4_
     have BK16 := n5_
     have HB := n6_
     clear n0_ n1_ n2_ n3_ n4_ n5_ n6_
     (try clear hb)
     (try clear hb2)
     (try clear hk)
     (try clear hi)
     refine hK.out _ _ ⟨(blk_cell BK16.out 0).trans rfl, (blk_cell BK16.out 1).trans rfl, (blk_cell BK16.out 2).trans rfl, (blk_cell BK16.out 3).trans rfl, (blk_cell BK16.out 4).trans rfl, (blk_cell BK16.out 5).trans rfl, (blk_cell BK16.out 6).trans rfl, (blk_cell BK16.out 7).trans rfl, (blk_cell BK1.out 0).trans rfl, (blk_cell BK1.out 1).trans rfl, (blk_cell BK1.out 2).trans rfl, (blk_cell BK1.out 3).trans rfl, (blk_cell BK1.out 4).trans rfl, (blk_cell BK1.out 5).trans rfl, (blk_cell BK1.out 6).trans rfl, (blk_cell BK1.out 7).trans rfl⟩ (fun hHeld => ?_)
     clear hK K
     refine norm_ (a' := ?_) ?_ ?_
     rotate_left
     ·
      show Act.put _ (some 17) _ = _
      simp only [Act.put, List.setIfInBounds_toArray, List.set_cons_zero, List.set_cons_succ, i64_w, i32_w, IntKind.wrap_u32]
      rfl
     refine pure_ (i := 8) (N := some 18) (v := ?_) (a' := ?_) #[true, true, true, true, true, true, true, true, true, false, false, false, false, false, false] rfl rfl (any_of HT_.out (by kernel_rfl)) (fun _ _ _ h => h) (Or.inl ⟨by rfl, ?_⟩) ?_ ?_
     rotate_left
     ·
      intro w'
      go_simp
      with_reducible rfl
     rotate_left
     ·
      simp only [Act.put, List.setIfInBounds_toArray, List.set_cons_zero, List.set_cons_succ, i64_w, i32_w, IntKind.wrap_u32]
      rfl
     refine pure_ (i := 9) (N := some 19) (v := undef) (a' := ?_) #[true, true, true, true, true, true, true, true, true, true, false, false, false, false, false] rfl rfl (any_of HT_.out (by kernel_rfl)) (fun _ _ _ h => h) (Or.inr ⟨by rfl, rfl⟩) ?_ ?_
     rotate_left
     ·
      simp only [Act.put, List.setIfInBounds_toArray, List.set_cons_zero, List.set_cons_succ, i64_w, i32_w, IntKind.wrap_u32]
      rfl
     refine pure_ (i := 10) (N := some 20) (v := undef) (a' := ?_) #[true, true, true, true, true, true, true, true, true, true, true, false, false, false, false] rfl rfl (any_of HT_.out (by kernel_rfl)) (fun _ _ _ h => h) (Or.inr ⟨by rfl, rfl⟩) ?_ ?_
     rotate_left
     ·
      simp only [Act.put, List.setIfInBounds_toArray, List.set_cons_zero, List.set_cons_succ, i64_w, i32_w, IntKind.wrap_u32]
      rfl
     refine pure_ (i := 11) (N := some 21) (v := undef) (a' := ?_) #[true, true, true, true, true, true, true, true, true, true, true, true, false, false, false] rfl rfl (any_of HT_.out (by kernel_rfl)) (fun _ _ _ h => h) (Or.inr ⟨by rfl, rfl⟩) ?_ ?_
     rotate_left
     ·
      simp only [Act.put, List.setIfInBounds_toArray, List.set_cons_zero, List.set_cons_succ, i64_w, i32_w, IntKind.wrap_u32]
      rfl
     refine pure_ (i := 12) (N := some 22) (v := undef) (a' := ?_) #[true, true, true, true, true, true, true, true, true, true, true, true, true, false, false] rfl rfl (any_of HT_.out (by kernel_rfl)) (fun _ _ _ h => h) (Or.inr ⟨by rfl, rfl⟩) ?_ ?_
     rotate_left
     ·
      simp only [Act.put, List.setIfInBounds_toArray, List.set_cons_zero, List.set_cons_succ, i64_w, i32_w, IntKind.wrap_u32]
      rfl
     refine pure_ (i := 13) (N := some 23) (v := ?_) (a' := ?_) #[true, true, true, true, true, true, true, true, true, true, true, true, true, true, false] rfl rfl (any_of HT_.out (by kernel_rfl)) (fun _ _ _ h => h) (Or.inl ⟨by rfl, ?_⟩) ?_ ?_
     rotate_left
     ·
      intro w'
      go_simp
      with_reducible rfl
     rotate_left
     ·
      simp only [Act.put, List.setIfInBounds_toArray, List.set_cons_zero, List.set_cons_succ, i64_w, i32_w, IntKind.wrap_u32]
      rfl
     refine pure_ (i := 14) (N := some 24) (v := ?_) (a' := ?_) #[true, true, true, true, true, true, true, true, true, true, true, true, true, true, true] rfl rfl (any_of HT_.out (by kernel_rfl)) (fun _ _ _ h => h) (Or.inl ⟨by rfl, ?_⟩) ?_ ?_
     rotate_left
     ·
      intro w'
      go_simp
      with_reducible rfl
     rotate_left
     ·
      simp only [Act.put, List.setIfInBounds_toArray, List.set_cons_zero, List.set_cons_succ, i64_w, i32_w, IntKind.wrap_u32]
      rfl
     refine done_ (done_of HT_.out (by kernel_rfl)) ?_
     have hcz80_0 : w79.cell? ⟨gb16, 0, none⟩ = some (.int .u32 t4) := (blk_cell BK16.out 0).trans rfl
     have hcz80_1 : w79.cell? ⟨gb16, 1, none⟩ = some (.int .i64 t5) := (blk_cell BK16.out 1).trans rfl
     have hcz80_2 : w79.cell? ⟨gb16, 2, none⟩ = some (.slice Ao71 t6.length co71) := (blk_cell BK16.out 2).trans rfl
     have hcz80_3 : w79.cell? ⟨gb16, 3, none⟩ = some (.slice Ao72 t9.length co72) := (blk_cell BK16.out 3).trans rfl
     have hcz80_4 : w79.cell? ⟨gb16, 4, none⟩ = some (.int .u32 t12) := (blk_cell BK16.out 4).trans rfl
     have hcz80_5 : w79.cell? ⟨gb16, 5, none⟩ = some (.int .u32 t13) := (blk_cell BK16.out 5).trans rfl
     have hcz80_6 : w79.cell? ⟨gb16, 6, none⟩ = some (.int .i64 t14) := (blk_cell BK16.out 6).trans rfl
     have hcz80_7 : w79.cell? ⟨gb16, 7, none⟩ = some (.int .u32 t15) := (blk_cell BK16.out 7).trans rfl
     have hfz80_0 := blk_frozen BK16.out 0
     have hfz80_1 := blk_frozen BK16.out 1
     have hfz80_2 := blk_frozen BK16.out 2
     have hfz80_3 := blk_frozen BK16.out 3
     have hfz80_4 := blk_frozen BK16.out 4
     have hfz80_5 := blk_frozen BK16.out 5
     have hfz80_6 := blk_frozen BK16.out 6
     have hfz80_7 := blk_frozen BK16.out 7
     try go_wp2
     have n0_ : Aside0 (Kd.R (Kd.int .u32) 33 ((w79.setCell ⟨gb16, 6, none⟩ (.int .i64 1)).setCell ⟨gb16, 2, none⟩ (.slice none 0 0)) w.heap.size (fun k_ => some k_ ≠ (.slice Ao72 t9.length co72 : Value).ownBlock ∧ some k_ ≠ (.slice Ao76 t19.length co76 : Value).ownBlock ∧ some k_ ≠ (.slice Ao77 t22.length co77 : Value).ownBlock) (.slice Ao71 t6.length co71) t6) := ⟨by (with_reducible repeat (first | apply Kd.R_alloc | apply Kd.R_drewN | apply Kd.R_drew)); exact Kd.R_mono (Kd.R_far (p := ⟨gb16, 2, none⟩) (Kd.R_far (p := ⟨gb16, 6, none⟩) (Kd.R_types HO8.out BK16.out (by decide)) (fun _ hk => hk.2) (.int .i64 1)) (fun _ hk => hk.2) (.slice none 0 0)) (fun _ hk => ⟨hk.1.1.1, ⟨hk.1.1.2, hk.1.2⟩⟩)⟩
     have n1_ : Aside0 (Kd.R (Kd.int .u32) 33 ((w79.setCell ⟨gb16, 6, none⟩ (.int .i64 1)).setCell ⟨gb16, 2, none⟩ (.slice none 0 0)) w.heap.size (fun k_ => some k_ ≠ (.slice Ao71 t6.length co71 : Value).ownBlock ∧ some k_ ≠ (.slice Ao76 t19.length co76 : Value).ownBlock ∧ some k_ ≠ (.slice Ao77 t22.length co77 : Value).ownBlock) (.slice Ao72 t9.length co72) t9) := ⟨by (with_reducible repeat (first | apply Kd.R_alloc | apply Kd.R_drewN | apply Kd.R_drew)); exact Kd.R_mono (Kd.R_far (p := ⟨gb16, 2, none⟩) (Kd.R_far (p := ⟨gb16, 6, none⟩) (Kd.R_types HO11.out BK16.out (by decide)) (fun _ hk => hk.2) (.int .i64 1)) (fun _ hk => hk.2) (.slice none 0 0)) (fun _ hk => ⟨hk.1.1.1, ⟨hk.1.1.2, hk.1.2⟩⟩)⟩
     have n2_ : Aside0 (Kd.R (Kd.int .u32) 33 ((w79.setCell ⟨gb16, 6, none⟩ (.int .i64 1)).setCell ⟨gb16, 2, none⟩ (.slice none 0 0)) w.heap.size (fun k_ => some k_ ≠ (.slice Ao71 t6.length co71 : Value).ownBlock ∧ some k_ ≠ (.slice Ao72 t9.length co72 : Value).ownBlock ∧ some k_ ≠ (.slice Ao77 t22.length co77 : Value).ownBlock) (.slice Ao76 t19.length co76) t19) := ⟨by (with_reducible repeat (first | apply Kd.R_alloc | apply Kd.R_drewN | apply Kd.R_drew)); exact Kd.R_mono (Kd.R_far (p := ⟨gb16, 2, none⟩) (Kd.R_far (p := ⟨gb16, 6, none⟩) (Kd.R_types HO21.out BK16.out (by decide)) (fun _ hk => hk.2) (.int .i64 1)) (fun _ hk => hk.2) (.slice none 0 0)) (fun _ hk => ⟨hk.1.1.2, ⟨hk.1.2, hk.1.1.1⟩⟩)⟩
     have n3_ : Aside0 (Kd.R (Kd.int .u32) 33 ((w79.setCell ⟨gb16, 6, none⟩ (.int .i64 1)).setCell ⟨gb16, 2, none⟩ (.slice none 0 0)) w.heap.size (fun k_ => some k_ ≠ (.slice Ao71 t6.length co71 : Value).ownBlock ∧ some k_ ≠ (.slice Ao72 t9.length co72 : Value).ownBlock ∧ some k_ ≠ (.slice Ao76 t19.length co76 : Value).ownBlock) (.slice Ao77 t22.length co77) t22) := ⟨by (with_reducible repeat (first | apply Kd.R_alloc | apply Kd.R_drewN | apply Kd.R_drew)); exact Kd.R_mono (Kd.R_far (p := ⟨gb16, 2, none⟩) (Kd.R_far (p := ⟨gb16, 6, none⟩) (Kd.R_types HO24.out BK16.out (by decide)) (fun _ hk => hk.2) (.int .i64 1)) (fun _ hk => hk.2) (.slice none 0 0)) (fun _ hk => ⟨hk.1.1.2, ⟨hk.1.2, hk.1.1.1⟩⟩)⟩
     have n4_ : Aside0 (((w79.setCell ⟨gb16, 6, none⟩ (.int .i64 1)).setCell ⟨gb16, 2, none⟩ (.slice none 0 0)).heap[gb1]? = some (.cells #[.int .u32 a0_0, .int .i64 a0_1, .slice A0_2 l0_2.length c0_2, .slice A0_3 l0_3.length c0_3, .int .u32 a0_4, .int .u32 a0_5, .int .i64 a0_6, .int .u32 a0_7] 38 (0, 0))) := ⟨by (with_reducible repeat (first | refine blk_drewN ?_ _ | refine blk_drew ?_ | refine blk_alloc ?_ _)); refine blk_far ?_ NB1_16.out _; (with_reducible repeat (first | refine blk_drewN ?_ _ | refine blk_drew ?_ | refine blk_alloc ?_ _)); refine blk_far ?_ NB1_16.out _; (with_reducible repeat (first | refine blk_drewN ?_ _ | refine blk_drew ?_ | refine blk_alloc ?_ _)); exact BK1.out⟩
     have n5_ : Aside0 (((w79.setCell ⟨gb16, 6, none⟩ (.int .i64 1)).setCell ⟨gb16, 2, none⟩ (.slice none 0 0)).heap[gb16]? = some (.cells #[.int .u32 t4, .int .i64 t5, .slice none 0 0, .slice Ao72 t9.length co72, .int .u32 t12, .int .u32 t13, .int .i64 1, .int .u32 t15] 38 (0, 0))) := ⟨by (with_reducible repeat (first | refine blk_drewN ?_ _ | refine blk_drew ?_ | refine blk_alloc ?_ _)); refine blk_put (cs := #[.int .u32 t4, .int .i64 t5, .slice Ao71 t6.length co71, .slice Ao72 t9.length co72, .int .u32 t12, .int .u32 t13, .int .i64 1, .int .u32 t15]) ?_ 2 _ rfl; (with_reducible repeat (first | refine blk_drewN ?_ _ | refine blk_drew ?_ | refine blk_alloc ?_ _)); refine blk_put (cs := #[.int .u32 t4, .int .i64 t5, .slice Ao71 t6.length co71, .slice Ao72 t9.length co72, .int .u32 t12, .int .u32 t13, .int .i64 t14, .int .u32 t15]) ?_ 6 _ rfl; (with_reducible repeat (first | refine blk_drewN ?_ _ | refine blk_drew ?_ | refine blk_alloc ?_ _)); exact BK16.out⟩
     have n6_ : Aside0 (Below w.heap.size w ((w79.setCell ⟨gb16, 6, none⟩ (.int .i64 1)).setCell ⟨gb16, 2, none⟩ (.slice none 0 0))) := ⟨by repeat (first | (with_reducible first | exact HB.out | apply below_alloc | apply pw_below_drewN | apply below_drew1 | refine below_set ?_ GE1.out | refine below_set ?_ GE16.out) | exact HB.out)⟩
     (try clear HO8)
     (try clear HO11)
     (try clear HO21)
     (try clear HO24)
     (try clear BK1)
     (try clear BK16)
     (try clear HB)
     generalize ((w79.setCell ⟨gb16, 6, none⟩ (.int .i64 1)).setCell ⟨gb16, 2, none⟩ (.slice none 0 0)) = w81 at n0_ n1_ n2_ n3_ n4_ n5_ n6_ ⊢
     have HO8 := n0_
     have HO11 := n1_
     have HO21 := n2_
     have HO24 := n3_
     have BK1 := n4_
     have BK16 := n5_
     have HB := n6_
     clear n0_ n1_ n2_ n3_ n4_ n5_ n6_
     have n0_ := Aside0.mk (Kd.R_drew HO8.out)
     have n1_ := Aside0.mk (Kd.R_drew HO11.out)
     have n2_ := Aside0.mk (Kd.R_drew HO21.out)
     have n3_ := Aside0.mk (Kd.R_drew HO24.out)
     have n4_ := Aside0.mk (blk_drew BK1.out)
     have n5_ := Aside0.mk (blk_drew BK16.out)
     have n6_ := Aside0.mk (below_drew1 HB.out)
     clear HO8
     clear HO11
     clear HO21
     clear HO24
     clear BK1
     clear BK16
     clear HB
     have HO8 := n0_
     have HO11 := n1_
     have HO21 := n2_
     have HO24 := n3_
     have BK1 := n4_
     have BK16 := n5_
     have HB := n6_
     clear n0_ n1_ n2_ n3_ n4_ n5_ n6_
     refine start_ (n := 8) (S := fun w' => w'.cell? ⟨gb16, 0, none⟩ = some (.int .u32 t4) ∧ w'.cell? ⟨gb16, 1, none⟩ = some (.int .i64 t5) ∧ w'.cell? ⟨gb16, 2, none⟩ = some (.slice none 0 0) ∧ w'.cell? ⟨gb16, 3, none⟩ = some (.slice Ao72 t9.length co72) ∧ w'.cell? ⟨gb16, 4, none⟩ = some (.int .u32 t12) ∧ w'.cell? ⟨gb16, 5, none⟩ = some (.int .u32 t13) ∧ w'.cell? ⟨gb16, 6, none⟩ = some (.int .i64 1) ∧ w'.cell? ⟨gb16, 7, none⟩ = some (.int .u32 t15)) (ds := []) #[false, false, false, false, false, false, false, false] (by kernel_rfl) rfl rfl ⟨(blk_cell BK16.out 0).trans rfl, (blk_cell BK16.out 1).trans rfl, (blk_cell BK16.out 2).trans rfl, (blk_cell BK16.out 3).trans rfl, (blk_cell BK16.out 4).trans rfl, (blk_cell BK16.out 5).trans rfl, (blk_cell BK16.out 6).trans rfl, (blk_cell BK16.out 7).trans rfl⟩ (fun hHeld => ?_); refine with_tabW q17z.tab10 q17z.bits10 (fun HT_ HW_ => ?_)
     generalize w81.drew = w82 at HO8 HO11 HO21 HO24 BK1 BK16 HB hHeld ⊢
     refine pure_ (i := 2) (N := some 29) (v := ?_) (a' := ?_) #[false, false, true, false, false, false, false, false] rfl rfl (any_of HT_.out (by kernel_rfl)) (fun _ _ _ h => h) (Or.inl ⟨by rfl, ?_⟩) ?_ ?_
     rotate_left
     ·
      intro w'
      go_simp
      with_reducible rfl
     rotate_left
     ·
      simp only [Act.put, List.setIfInBounds_toArray, List.set_cons_zero, List.set_cons_succ, i64_w, i32_w, IntKind.wrap_u32]
      rfl
     refine take_ (i := 0) (N := some 27) (v := ?_) (a' := ?_) #[true, false, true, false, false, false, false, false] rfl rfl (take_ofW HT_.out HW_.out (by kernel_rfl)) (fun _ _ _ h => h) (Or.inl ⟨by rfl, ?_⟩) hHeld ?_ ?_
     rotate_left
     ·
      rintro w' ⟨s0, s1, s2, s3, s4, s5, s6, s7⟩
      go_simp
      with_reducible rfl
     rotate_left
     ·
      simp only [Act.put, List.setIfInBounds_toArray, List.set_cons_zero, List.set_cons_succ, i64_w, i32_w, IntKind.wrap_u32]
      rfl
     refine take_ (i := 3) (N := some 30) (v := ?_) (a' := ?_) #[true, false, true, true, false, false, false, false] rfl rfl (take_ofW HT_.out HW_.out (by kernel_rfl)) (fun _ _ _ h => h) (Or.inl ⟨by rfl, ?_⟩) hHeld ?_ ?_
     rotate_left
     ·
      rintro w' ⟨s0, s1, s2, s3, s4, s5, s6, s7⟩
      go_simp
      with_reducible rfl
     rotate_left
     ·
      simp only [Act.put, List.setIfInBounds_toArray, List.set_cons_zero, List.set_cons_succ, i64_w, i32_w, IntKind.wrap_u32]
      rfl
     refine pure_ (i := 4) (N := some 31) (v := ?_) (a' := ?_) #[true, false, true, true, true, false, false, false] rfl rfl (any_of HT_.out (by kernel_rfl)) (fun _ _ _ h => h) (Or.inl ⟨by rfl, ?_⟩) ?_ ?_
     rotate_left
     ·
      intro w'
      go_simp
      with_reducible rfl
     rotate_left
     ·
      simp only [Act.put, List.setIfInBounds_toArray, List.set_cons_zero, List.set_cons_succ, i64_w, i32_w, IntKind.wrap_u32]
      rfl
     refine pure_ (i := 5) (N := some 32) (v := ?_) (a' := ?_) #[true, false, true, true, true, true, false, false] rfl rfl (any_of HT_.out (by kernel_rfl)) (fun _ _ _ h => h) (Or.inl ⟨by rfl, ?_⟩) ?_ ?_
     rotate_left
     ·
      intro w'
      go_simp
      with_reducible rfl
     rotate_left
     ·
      simp only [Act.put, List.setIfInBounds_toArray, List.set_cons_zero, List.set_cons_succ, i64_w, i32_w, IntKind.wrap_u32]
      rfl
     refine one_ (i := 1) (N := some 28) #[true, true, true, true, true, true, false, false] rfl rfl (one_of HT_.out (by kernel_rfl)) (by decide) (fun K hK => ?_)
     refine goes_ Try.func30 (by kernel_rfl) rfl #[.agg #[.int .u32 t4, .int .i64 t5, .slice none 0 0, .slice Ao72 t9.length co72, .int .u32 t12, .int .u32 t13, .int .i64 1, .int .u32 t15]] (by rfl) rfl rfl (by (try simp only [List.map_toArray, List.map_cons, List.map_nil]); first | done | rfl | (simp only [List.length_drop, List.length_take]; rfl)) ?_
     refine (q4z.calls k t4 t5 _ _ ([] : List Int) _ _ t9 t12 t13 1 t15 t33 _ ?side1 ?side2 ?side3 ?side4 A61.out).mono ?_
     (case side1 => exact Kd.C_nil _ _)
     (case side2 => exact Nat.le_refl _)
     (case side3 => repeat (first | exact (Kd.R_reads' HO11.out).2.2 | (with_reducible refine Kd.C_alloc ?_ _) | (with_reducible refine Kd.C_drewN ?_ _) | (with_reducible refine Kd.C_drew ?_)))
     (case side4 => exact (Kd.R_reads' HO11.out).2.1)
     rintro e w83 ⟨rfl, hb⟩
     refine ⟨_, rfl, ?_⟩
     have n0_ := Aside0.mk (Kd.R_below (by (with_reducible repeat (first | apply Kd.R_alloc | apply Kd.R_drewN | apply Kd.R_drew)); exact HO8.out) hb)
     have n1_ := Aside0.mk (Kd.R_below (by (with_reducible repeat (first | apply Kd.R_alloc | apply Kd.R_drewN | apply Kd.R_drew)); exact HO11.out) hb)
     have n2_ := Aside0.mk (Kd.R_below (by (with_reducible repeat (first | apply Kd.R_alloc | apply Kd.R_drewN | apply Kd.R_drew)); exact HO21.out) hb)
     have n3_ := Aside0.mk (Kd.R_below (by (with_reducible repeat (first | apply Kd.R_alloc | apply Kd.R_drewN | apply Kd.R_drew)); exact HO24.out) hb)
     have n4_ := Aside0.mk (blk_below (g := gb1) (o := .cells #[.int .u32 a0_0, .int .i64 a0_1, .slice A0_2 l0_2.length c0_2, .slice A0_3 l0_3.length c0_3, .int .u32 a0_4, .int .u32 a0_5, .int .i64 a0_6, .int .u32 a0_7] 38 (0, 0)) (by (with_reducible repeat (first | refine blk_drewN ?_ _ | refine blk_drew ?_ | refine blk_alloc ?_ _)); exact BK1.out) hb)
     have n5_ := Aside0.mk (blk_below (g := gb16) (o := .cells #[.int .u32 t4, .int .i64 t5, .slice none 0 0, .slice Ao72 t9.length co72, .int .u32 t12, .int .u32 t13, .int .i64 1, .int .u32 t15] 38 (0, 0)) (by (with_reducible repeat (first | refine blk_drewN ?_ _ | refine blk_drew ?_ | refine blk_alloc ?_ _)); exact BK16.out) hb)
     have n6_ := Aside0.mk (below_step (by repeat (first | (with_reducible first | exact HB.out | apply below_alloc | apply pw_below_drewN | apply below_drew1 | refine below_set ?_ GE1.out | refine below_set ?_ GE16.out) | exact HB.out)) hb)
     clear HO8
     clear HO11
     clear HO21
     clear HO24
     clear BK1
     clear BK16
     clear HB
     have HO8 := n0_
     have HO11 := n1_
     have HO21 := n2_
     have HO24 := n3_
     have BK1 := n4_
     have BK16 := n5_
     have HB := n6_
     clear n0_ n1_ n2_ n3_ n4_ n5_ n6_
     (try clear hb)
     (try clear hb2)
     (try clear hk)
     (try clear hi)
     refine hK.out _ _ ⟨(blk_cell BK16.out 0).trans rfl, (blk_cell BK16.out 1).trans rfl, (blk_cell BK16.out 2).trans rfl, (blk_cell BK16.out 3).trans rfl, (blk_cell BK16.out 4).trans rfl, (blk_cell BK16.out 5).trans rfl, (blk_cell BK16.out 6).trans rfl, (blk_cell BK16.out 7).trans rfl⟩ (fun hHeld => ?_)
     clear hK K
     refine norm_ (a' := ?_) ?_ ?_
     rotate_left
     ·
      show Act.put _ (some 28) _ = _
      simp only [Act.put, List.setIfInBounds_toArray, List.set_cons_zero, List.set_cons_succ, i64_w, i32_w, IntKind.wrap_u32]
      rfl
     refine pure_ (i := 6) (N := some 33) (v := ?_) (a' := ?_) #[true, true, true, true, true, true, true, false] rfl rfl (any_of HT_.out (by kernel_rfl)) (fun _ _ _ h => h) (Or.inl ⟨by rfl, ?_⟩) ?_ ?_
     rotate_left
     ·
      intro w'
      go_simp
      with_reducible rfl
     rotate_left
     ·
      simp only [Act.put, List.setIfInBounds_toArray, List.set_cons_zero, List.set_cons_succ, i64_w, i32_w, IntKind.wrap_u32]
      rfl
     refine pure_ (i := 7) (N := some 2) (v := ?_) (a' := ?_) #[true, true, true, true, true, true, true, true] rfl rfl (any_of HT_.out (by kernel_rfl)) (fun _ _ _ h => h) (Or.inl ⟨by rfl, ?_⟩) ?_ ?_
     rotate_left
     ·
      intro w'
      go_simp
      with_reducible rfl
     rotate_left
     ·
      simp only [Act.put, List.setIfInBounds_toArray, List.set_cons_zero, List.set_cons_succ, i64_w, i32_w, IntKind.wrap_u32]
      rfl
     refine done_ (done_of HT_.out (by kernel_rfl)) ?_
     try go_wp2
     go_ret
     exact ⟨by first | rfl | (simp [errW_none, errW_some] <;> rfl) | (simp [*, errW_none, errW_some] <;> rfl), by repeat (first | (with_reducible first | exact HB.out | apply below_alloc | apply pw_below_drewN | apply below_drew1 | refine below_set ?_ GE1.out | refine below_set ?_ GE16.out) | exact HB.out)⟩
   ·
    rw [if_neg c13] at H
    have c13b0 : (t29 == 0) = false := beq_eq_false_iff_ne.mpr c13
    have c13b1 : (t29 != 0) = true := bne_iff_ne.mpr c13
    obtain rfl := Option.some.inj H
    go_enter Try.func10, Try.ntmps10
    try go_wp2_with (first | ((with_reducible refine gate_dst (N := 1) rfl ?_); refine box_event ?hg (N := 1) ?hd (cs := #[.int .u32 a0_0, .int .i64 a0_1, .slice A0_2 l0_2.length c0_2, .slice A0_3 l0_3.length c0_3, .int .u32 a0_4, .int .u32 a0_5, .int .i64 a0_6, .int .u32 a0_7]) (t := 38) ?hr ?_; (case hd => rfl); (case hg => rfl); (case hr => first | (go_simp; done) | (go_simp; rfl)); intro gb1 hg w84 hbox hb; have n0_ := Aside0.mk (below_step (by repeat (first | (with_reducible first | exact HB.out | apply below_alloc | apply pw_below_drewN | apply below_drew1) | exact HB.out)) hb); have n1_ := Aside0.mk (hbox); have n2_ := Aside0.mk ((by rw [hg]; exact (below_size (by repeat (first | (with_reducible first | exact HB.out | apply below_alloc | apply pw_below_drewN | apply below_drew1) | exact HB.out))) : w.heap.size ≤ gb1)); have n3_ := Aside0.mk ((by rw [hg]; exact (below_size (by repeat (first | (with_reducible first | exact HB.out | apply below_alloc | apply pw_below_drewN | apply below_drew1) | exact HB.out))) : w.heap.size ≤ gb1)); clear HB; have HB := n0_; have BK1 := n1_; have GW1 := n2_; have GE1 := n3_; clear n0_ n1_ n2_ n3_; clear hb hbox hg) | ((with_reducible refine gate_callee (f := 29) rfl ?_); refine goesL_ (some 4) rfl rfl Try.func29 (by kernel_rfl) rfl #[] rfl (by (try simp only [List.map_toArray, List.map_cons, List.map_nil]); first | done | rfl | (simp only [List.length_drop, List.length_take]; rfl)) ?_; (with_reducible refine (q15z.calls k  true _ A2.out).mono ?_); rintro e w85 ⟨rfl, hb⟩; refine ⟨_, rfl, ?_⟩; have n0_ := Aside0.mk (blk_below (g := gb1) (o := .cells #[.int .u32 a0_0, .int .i64 a0_1, .slice A0_2 l0_2.length c0_2, .slice A0_3 l0_3.length c0_3, .int .u32 a0_4, .int .u32 a0_5, .int .i64 a0_6, .int .u32 a0_7] 38 (0, 0)) (by (with_reducible repeat (first | refine blk_drewN ?_ _ | refine blk_drew ?_ | refine blk_alloc ?_ _)); exact BK1.out) hb); have n1_ := Aside0.mk (below_step (by repeat (first | (with_reducible first | exact HB.out | apply below_alloc | apply pw_below_drewN | apply below_drew1 | refine below_set ?_ GE1.out) | exact HB.out)) hb); clear BK1; clear HB; have BK1 := n0_; have HB := n1_; clear n0_ n1_; (try clear hb); (try clear hb2); (try clear hk); (try clear hi); have hcz86_0 : w85.cell? ⟨gb1, 0, none⟩ = some (.int .u32 a0_0) := (blk_cell BK1.out 0).trans rfl; have hcz86_1 : w85.cell? ⟨gb1, 1, none⟩ = some (.int .i64 a0_1) := (blk_cell BK1.out 1).trans rfl; have hcz86_2 : w85.cell? ⟨gb1, 2, none⟩ = some (.slice A0_2 l0_2.length c0_2) := (blk_cell BK1.out 2).trans rfl; have hcz86_3 : w85.cell? ⟨gb1, 3, none⟩ = some (.slice A0_3 l0_3.length c0_3) := (blk_cell BK1.out 3).trans rfl; have hcz86_4 : w85.cell? ⟨gb1, 4, none⟩ = some (.int .u32 a0_4) := (blk_cell BK1.out 4).trans rfl; have hcz86_5 : w85.cell? ⟨gb1, 5, none⟩ = some (.int .u32 a0_5) := (blk_cell BK1.out 5).trans rfl; have hcz86_6 : w85.cell? ⟨gb1, 6, none⟩ = some (.int .i64 a0_6) := (blk_cell BK1.out 6).trans rfl; have hcz86_7 : w85.cell? ⟨gb1, 7, none⟩ = some (.int .u32 a0_7) := (blk_cell BK1.out 7).trans rfl; have hfz86_0 := blk_frozen BK1.out 0; have hfz86_1 := blk_frozen BK1.out 1; have hfz86_2 := blk_frozen BK1.out 2; have hfz86_3 := blk_frozen BK1.out 3; have hfz86_4 := blk_frozen BK1.out 4; have hfz86_5 := blk_frozen BK1.out 5; have hfz86_6 := blk_frozen BK1.out 6; have hfz86_7 := blk_frozen BK1.out 7) | ((with_reducible refine gate_callee (f := 34) rfl ?_); refine goesL_ (some 7) rfl rfl Try.func34 (by kernel_rfl) rfl #[.agg #[.int .u32 a0_0, .int .i64 a0_1, .slice A0_2 l0_2.length c0_2, .slice A0_3 l0_3.length c0_3, .int .u32 a0_4, .int .u32 a0_5, .int .i64 a0_6, .int .u32 a0_7]] rfl (by (try simp only [List.map_toArray, List.map_cons, List.map_nil]); first | done | rfl | (simp only [List.length_drop, List.length_take]; rfl)) ?_; (with_reducible refine (q16z.calls a0_0 a0_1 _ _ l0_2 _ _ l0_3 a0_4 a0_5 a0_6 a0_7 false _ ?side1 ?side2 ?side3 ?side4 A4.out).mono ?_); (case side1 => repeat (first | exact (Kd.C_below HR0_2.out HB.out) | (with_reducible refine Kd.C_alloc ?_ _) | (with_reducible refine Kd.C_drewN ?_ _) | (with_reducible refine Kd.C_drew ?_))); (case side2 => exact HC0_2.out); (case side3 => repeat (first | exact (Kd.C_below HR0_3.out HB.out) | (with_reducible refine Kd.C_alloc ?_ _) | (with_reducible refine Kd.C_drewN ?_ _) | (with_reducible refine Kd.C_drew ?_))); (case side4 => exact HC0_3.out); rintro e w87 ⟨rfl, hb⟩; refine ⟨_, rfl, ?_⟩; have n0_ := Aside0.mk (blk_below (g := gb1) (o := .cells #[.int .u32 a0_0, .int .i64 a0_1, .slice A0_2 l0_2.length c0_2, .slice A0_3 l0_3.length c0_3, .int .u32 a0_4, .int .u32 a0_5, .int .i64 a0_6, .int .u32 a0_7] 38 (0, 0)) (by (with_reducible repeat (first | refine blk_drewN ?_ _ | refine blk_drew ?_ | refine blk_alloc ?_ _)); exact BK1.out) hb); have n1_ := Aside0.mk (below_step (by repeat (first | (with_reducible first | exact HB.out | apply below_alloc | apply pw_below_drewN | apply below_drew1 | refine below_set ?_ GE1.out) | exact HB.out)) hb); clear BK1; clear HB; have BK1 := n0_; have HB := n1_; clear n0_ n1_; (try clear hb); (try clear hb2); (try clear hk); (try clear hi); have hcz88_0 : w87.cell? ⟨gb1, 0, none⟩ = some (.int .u32 a0_0) := (blk_cell BK1.out 0).trans rfl; have hcz88_1 : w87.cell? ⟨gb1, 1, none⟩ = some (.int .i64 a0_1) := (blk_cell BK1.out 1).trans rfl; have hcz88_2 : w87.cell? ⟨gb1, 2, none⟩ = some (.slice A0_2 l0_2.length c0_2) := (blk_cell BK1.out 2).trans rfl; have hcz88_3 : w87.cell? ⟨gb1, 3, none⟩ = some (.slice A0_3 l0_3.length c0_3) := (blk_cell BK1.out 3).trans rfl; have hcz88_4 : w87.cell? ⟨gb1, 4, none⟩ = some (.int .u32 a0_4) := (blk_cell BK1.out 4).trans rfl; have hcz88_5 : w87.cell? ⟨gb1, 5, none⟩ = some (.int .u32 a0_5) := (blk_cell BK1.out 5).trans rfl; have hcz88_6 : w87.cell? ⟨gb1, 6, none⟩ = some (.int .i64 a0_6) := (blk_cell BK1.out 6).trans rfl; have hcz88_7 : w87.cell? ⟨gb1, 7, none⟩ = some (.int .u32 a0_7) := (blk_cell BK1.out 7).trans rfl; have hfz88_0 := blk_frozen BK1.out 0; have hfz88_1 := blk_frozen BK1.out 1; have hfz88_2 := blk_frozen BK1.out 2; have hfz88_3 := blk_frozen BK1.out 3; have hfz88_4 := blk_frozen BK1.out 4; have hfz88_5 := blk_frozen BK1.out 5; have hfz88_6 := blk_frozen BK1.out 6; have hfz88_7 := blk_frozen BK1.out 7) | ((with_reducible refine gate_callee (f := 36) rfl ?_); refine goesL_ (some 9) rfl rfl Try.func36 (by kernel_rfl) rfl #[.agg #[.int .u32 a0_0, .int .i64 a0_1, .slice A0_2 l0_2.length c0_2, .slice A0_3 l0_3.length c0_3, .int .u32 a0_4, .int .u32 a0_5, .int .i64 a0_6, .int .u32 a0_7]] rfl (by (try simp only [List.map_toArray, List.map_cons, List.map_nil]); first | done | rfl | (simp only [List.length_drop, List.length_take]; rfl)) ?_; (with_reducible refine (q6z.calls k a0_0 a0_1 _ _ l0_2 _ _ l0_3 a0_4 a0_5 a0_6 a0_7 t4 t5 t6 t9 t12 t13 t14 t15 _ ?side1 ?side2 ?side3 ?side4 A10.out).mono ?_); (case side1 => repeat (first | exact (Kd.C_below HR0_2.out HB.out) | (with_reducible refine Kd.C_alloc ?_ _) | (with_reducible refine Kd.C_drewN ?_ _) | (with_reducible refine Kd.C_drew ?_))); (case side2 => exact HC0_2.out); (case side3 => repeat (first | exact (Kd.C_below HR0_3.out HB.out) | (with_reducible refine Kd.C_alloc ?_ _) | (with_reducible refine Kd.C_drewN ?_ _) | (with_reducible refine Kd.C_drew ?_))); (case side4 => exact HC0_3.out); rintro e w89 ⟨v7, v10, rfl, ho0, ho1, hb⟩; refine ⟨_, rfl, ?_⟩; have n0_ := Aside0.mk (Kd.R_lower ho0 (below_size (by repeat (first | (with_reducible first | exact HB.out | apply below_alloc | apply pw_below_drewN | apply below_drew1 | refine below_set ?_ GE1.out) | exact HB.out)))); have n1_ := Aside0.mk (Kd.R_lower ho1 (below_size (by repeat (first | (with_reducible first | exact HB.out | apply below_alloc | apply pw_below_drewN | apply below_drew1 | refine below_set ?_ GE1.out) | exact HB.out)))); have n2_ := Aside0.mk (blk_below (g := gb1) (o := .cells #[.int .u32 a0_0, .int .i64 a0_1, .slice A0_2 l0_2.length c0_2, .slice A0_3 l0_3.length c0_3, .int .u32 a0_4, .int .u32 a0_5, .int .i64 a0_6, .int .u32 a0_7] 38 (0, 0)) (by (with_reducible repeat (first | refine blk_drewN ?_ _ | refine blk_drew ?_ | refine blk_alloc ?_ _)); exact BK1.out) hb); have n3_ := Aside0.mk (below_step (by repeat (first | (with_reducible first | exact HB.out | apply below_alloc | apply pw_below_drewN | apply below_drew1 | refine below_set ?_ GE1.out) | exact HB.out)) hb); clear BK1; clear HB; have HO8 := n0_; have HO11 := n1_; have BK1 := n2_; have HB := n3_; clear n0_ n1_ n2_ n3_; (try clear hb); (try clear hb2); (try clear hk); (try clear hi); (try clear ho0); (try clear ho1)) | ((with_reducible refine gate_dst (N := 3) rfl ?_); refine box_event ?hg (N := 3) ?hd (cs := #[.int .u32 0, .int .i64 0, .slice none 0 0, .slice none 0 0, .int .u32 0, .int .u32 0, .int .i64 0, .int .u32 0]) (t := 38) ?hr ?_; (case hd => rfl); (case hg => rfl); (case hr => first | (go_simp; done) | (go_simp; rfl)); intro gb16 hg w90 hbox hb; have n0_ := Aside0.mk (Kd.R_below (by (with_reducible repeat (first | apply Kd.R_alloc | apply Kd.R_drewN | apply Kd.R_drew)); exact HO8.out) hb); have n1_ := Aside0.mk (Kd.R_below (by (with_reducible repeat (first | apply Kd.R_alloc | apply Kd.R_drewN | apply Kd.R_drew)); exact HO11.out) hb); have n2_ := Aside0.mk (blk_below (g := gb1) (o := .cells #[.int .u32 a0_0, .int .i64 a0_1, .slice A0_2 l0_2.length c0_2, .slice A0_3 l0_3.length c0_3, .int .u32 a0_4, .int .u32 a0_5, .int .i64 a0_6, .int .u32 a0_7] 38 (0, 0)) (by (with_reducible repeat (first | refine blk_drewN ?_ _ | refine blk_drew ?_ | refine blk_alloc ?_ _)); exact BK1.out) hb); have n3_ := Aside0.mk (below_step (by repeat (first | (with_reducible first | exact HB.out | apply below_alloc | apply pw_below_drewN | apply below_drew1 | refine below_set ?_ GE1.out) | exact HB.out)) hb); have n4_ := Aside0.mk (hbox); have n5_ := Aside0.mk ((by rw [hg]; exact (below_size (by repeat (first | (with_reducible first | exact HB.out | apply below_alloc | apply pw_below_drewN | apply below_drew1 | refine below_set ?_ GE1.out) | exact HB.out))) : w.heap.size ≤ gb16)); have n6_ := Aside0.mk ((by rw [hg]; exact (below_size (by repeat (first | (with_reducible first | exact HB.out | apply below_alloc | apply pw_below_drewN | apply below_drew1 | refine below_set ?_ GE1.out) | exact HB.out))) : w.heap.size ≤ gb16)); have n7_ := Aside0.mk ((by rw [hg]; exact Nat.ne_of_lt (blk_lt (g := gb1) (o := .cells #[.int .u32 a0_0, .int .i64 a0_1, .slice A0_2 l0_2.length c0_2, .slice A0_3 l0_3.length c0_3, .int .u32 a0_4, .int .u32 a0_5, .int .i64 a0_6, .int .u32 a0_7] 38 (0, 0)) (by (with_reducible repeat (first | refine blk_drewN ?_ _ | refine blk_drew ?_ | refine blk_alloc ?_ _)); exact BK1.out)) : gb1 ≠ gb16)); have n8_ := Aside0.mk ((by rw [hg]; exact Nat.ne_of_gt (blk_lt (g := gb1) (o := .cells #[.int .u32 a0_0, .int .i64 a0_1, .slice A0_2 l0_2.length c0_2, .slice A0_3 l0_3.length c0_3, .int .u32 a0_4, .int .u32 a0_5, .int .i64 a0_6, .int .u32 a0_7] 38 (0, 0)) (by (with_reducible repeat (first | refine blk_drewN ?_ _ | refine blk_drew ?_ | refine blk_alloc ?_ _)); exact BK1.out)) : gb16 ≠ gb1)); clear HO8; clear HO11; clear BK1; clear HB; have HO8 := n0_; have HO11 := n1_; have BK1 := n2_; have HB := n3_; have BK16 := n4_; have GW16 := n5_; have GE16 := n6_; have NB1_16 := n7_; have NB16_1 := n8_; clear n0_ n1_ n2_ n3_ n4_ n5_ n6_ n7_ n8_; clear hb hbox hg; have hnb91 := NB16_1.out; have hnc91 := NB1_16.out; have hcz92_0 : w90.cell? ⟨gb16, 0, none⟩ = some (.int .u32 0) := (blk_cell BK16.out 0).trans rfl; have hcz92_1 : w90.cell? ⟨gb16, 1, none⟩ = some (.int .i64 0) := (blk_cell BK16.out 1).trans rfl; have hcz92_2 : w90.cell? ⟨gb16, 2, none⟩ = some (.slice none 0 0) := (blk_cell BK16.out 2).trans rfl; have hcz92_3 : w90.cell? ⟨gb16, 3, none⟩ = some (.slice none 0 0) := (blk_cell BK16.out 3).trans rfl; have hcz92_4 : w90.cell? ⟨gb16, 4, none⟩ = some (.int .u32 0) := (blk_cell BK16.out 4).trans rfl; have hcz92_5 : w90.cell? ⟨gb16, 5, none⟩ = some (.int .u32 0) := (blk_cell BK16.out 5).trans rfl; have hcz92_6 : w90.cell? ⟨gb16, 6, none⟩ = some (.int .i64 0) := (blk_cell BK16.out 6).trans rfl; have hcz92_7 : w90.cell? ⟨gb16, 7, none⟩ = some (.int .u32 0) := (blk_cell BK16.out 7).trans rfl; have hfz92_0 := blk_frozen BK16.out 0; have hfz92_1 := blk_frozen BK16.out 1; have hfz92_2 := blk_frozen BK16.out 2; have hfz92_3 := blk_frozen BK16.out 3; have hfz92_4 := blk_frozen BK16.out 4; have hfz92_5 := blk_frozen BK16.out 5; have hfz92_6 := blk_frozen BK16.out 6; have hfz92_7 := blk_frozen BK16.out 7; obtain ⟨Ao93, co93, eo93⟩ := Kd.R_slice HO8.out; subst eo93; obtain ⟨Ao94, co94, eo94⟩ := Kd.R_slice HO11.out; subst eo94))
    have n0_ : Aside0 (Kd.R (Kd.int .u32) 33 ((((((((w90.setCell ⟨gb16, 0, none⟩ (.int .u32 t4)).setCell ⟨gb16, 1, none⟩ (.int .i64 t5)).setCell ⟨gb16, 2, none⟩ (.slice Ao93 t6.length co93)).setCell ⟨gb16, 3, none⟩ (.slice Ao94 t9.length co94)).setCell ⟨gb16, 4, none⟩ (.int .u32 t12)).setCell ⟨gb16, 5, none⟩ (.int .u32 t13)).setCell ⟨gb16, 6, none⟩ (.int .i64 t14)).setCell ⟨gb16, 7, none⟩ (.int .u32 t15)) w.heap.size (fun k_ => some k_ ≠ (.slice Ao94 t9.length co94 : Value).ownBlock) (.slice Ao93 t6.length co93) t6) := ⟨by (with_reducible repeat (first | apply Kd.R_alloc | apply Kd.R_drewN | apply Kd.R_drew)); exact Kd.R_mono (Kd.R_far (p := ⟨gb16, 7, none⟩) (Kd.R_far (p := ⟨gb16, 6, none⟩) (Kd.R_far (p := ⟨gb16, 5, none⟩) (Kd.R_far (p := ⟨gb16, 4, none⟩) (Kd.R_far (p := ⟨gb16, 3, none⟩) (Kd.R_far (p := ⟨gb16, 2, none⟩) (Kd.R_far (p := ⟨gb16, 1, none⟩) (Kd.R_far (p := ⟨gb16, 0, none⟩) (Kd.R_types HO8.out BK16.out (by decide)) (fun _ hk => hk.2) (.int .u32 t4)) (fun _ hk => hk.2) (.int .i64 t5)) (fun _ hk => hk.2) (.slice Ao93 t6.length co93)) (fun _ hk => hk.2) (.slice Ao94 t9.length co94)) (fun _ hk => hk.2) (.int .u32 t12)) (fun _ hk => hk.2) (.int .u32 t13)) (fun _ hk => hk.2) (.int .i64 t14)) (fun _ hk => hk.2) (.int .u32 t15)) (fun _ hk => hk.1)⟩
    have n1_ : Aside0 (Kd.R (Kd.int .u32) 33 ((((((((w90.setCell ⟨gb16, 0, none⟩ (.int .u32 t4)).setCell ⟨gb16, 1, none⟩ (.int .i64 t5)).setCell ⟨gb16, 2, none⟩ (.slice Ao93 t6.length co93)).setCell ⟨gb16, 3, none⟩ (.slice Ao94 t9.length co94)).setCell ⟨gb16, 4, none⟩ (.int .u32 t12)).setCell ⟨gb16, 5, none⟩ (.int .u32 t13)).setCell ⟨gb16, 6, none⟩ (.int .i64 t14)).setCell ⟨gb16, 7, none⟩ (.int .u32 t15)) w.heap.size (fun k_ => some k_ ≠ (.slice Ao93 t6.length co93 : Value).ownBlock) (.slice Ao94 t9.length co94) t9) := ⟨by (with_reducible repeat (first | apply Kd.R_alloc | apply Kd.R_drewN | apply Kd.R_drew)); exact Kd.R_mono (Kd.R_far (p := ⟨gb16, 7, none⟩) (Kd.R_far (p := ⟨gb16, 6, none⟩) (Kd.R_far (p := ⟨gb16, 5, none⟩) (Kd.R_far (p := ⟨gb16, 4, none⟩) (Kd.R_far (p := ⟨gb16, 3, none⟩) (Kd.R_far (p := ⟨gb16, 2, none⟩) (Kd.R_far (p := ⟨gb16, 1, none⟩) (Kd.R_far (p := ⟨gb16, 0, none⟩) (Kd.R_types HO11.out BK16.out (by decide)) (fun _ hk => hk.2) (.int .u32 t4)) (fun _ hk => hk.2) (.int .i64 t5)) (fun _ hk => hk.2) (.slice Ao93 t6.length co93)) (fun _ hk => hk.2) (.slice Ao94 t9.length co94)) (fun _ hk => hk.2) (.int .u32 t12)) (fun _ hk => hk.2) (.int .u32 t13)) (fun _ hk => hk.2) (.int .i64 t14)) (fun _ hk => hk.2) (.int .u32 t15)) (fun _ hk => hk.1)⟩
    have n2_ : Aside0 (((((((((w90.setCell ⟨gb16, 0, none⟩ (.int .u32 t4)).setCell ⟨gb16, 1, none⟩ (.int .i64 t5)).setCell ⟨gb16, 2, none⟩ (.slice Ao93 t6.length co93)).setCell ⟨gb16, 3, none⟩ (.slice Ao94 t9.length co94)).setCell ⟨gb16, 4, none⟩ (.int .u32 t12)).setCell ⟨gb16, 5, none⟩ (.int .u32 t13)).setCell ⟨gb16, 6, none⟩ (.int .i64 t14)).setCell ⟨gb16, 7, none⟩ (.int .u32 t15)).heap[gb1]? = some (.cells #[.int .u32 a0_0, .int .i64 a0_1, .slice A0_2 l0_2.length c0_2, .slice A0_3 l0_3.length c0_3, .int .u32 a0_4, .int .u32 a0_5, .int .i64 a0_6, .int .u32 a0_7] 38 (0, 0))) := ⟨by (with_reducible repeat (first | refine blk_drewN ?_ _ | refine blk_drew ?_ | refine blk_alloc ?_ _)); refine blk_far ?_ NB1_16.out _; (with_reducible repeat (first | refine blk_drewN ?_ _ | refine blk_drew ?_ | refine blk_alloc ?_ _)); refine blk_far ?_ NB1_16.out _; (with_reducible repeat (first | refine blk_drewN ?_ _ | refine blk_drew ?_ | refine blk_alloc ?_ _)); refine blk_far ?_ NB1_16.out _; (with_reducible repeat (first | refine blk_drewN ?_ _ | refine blk_drew ?_ | refine blk_alloc ?_ _)); refine blk_far ?_ NB1_16.out _; (with_reducible repeat (first | refine blk_drewN ?_ _ | refine blk_drew ?_ | refine blk_alloc ?_ _)); refine blk_far ?_ NB1_16.out _; (with_reducible repeat (first | refine blk_drewN ?_ _ | refine blk_drew ?_ | refine blk_alloc ?_ _)); refine blk_far ?_ NB1_16.out _; (with_reducible repeat (first | refine blk_drewN ?_ _ | refine blk_drew ?_ | refine blk_alloc ?_ _)); refine blk_far ?_ NB1_16.out _; (with_reducible repeat (first | refine blk_drewN ?_ _ | refine blk_drew ?_ | refine blk_alloc ?_ _)); refine blk_far ?_ NB1_16.out _; (with_reducible repeat (first | refine blk_drewN ?_ _ | refine blk_drew ?_ | refine blk_alloc ?_ _)); exact BK1.out⟩
    have n3_ : Aside0 (((((((((w90.setCell ⟨gb16, 0, none⟩ (.int .u32 t4)).setCell ⟨gb16, 1, none⟩ (.int .i64 t5)).setCell ⟨gb16, 2, none⟩ (.slice Ao93 t6.length co93)).setCell ⟨gb16, 3, none⟩ (.slice Ao94 t9.length co94)).setCell ⟨gb16, 4, none⟩ (.int .u32 t12)).setCell ⟨gb16, 5, none⟩ (.int .u32 t13)).setCell ⟨gb16, 6, none⟩ (.int .i64 t14)).setCell ⟨gb16, 7, none⟩ (.int .u32 t15)).heap[gb16]? = some (.cells #[.int .u32 t4, .int .i64 t5, .slice Ao93 t6.length co93, .slice Ao94 t9.length co94, .int .u32 t12, .int .u32 t13, .int .i64 t14, .int .u32 t15] 38 (0, 0))) := ⟨by (with_reducible repeat (first | refine blk_drewN ?_ _ | refine blk_drew ?_ | refine blk_alloc ?_ _)); refine blk_put (cs := #[.int .u32 t4, .int .i64 t5, .slice Ao93 t6.length co93, .slice Ao94 t9.length co94, .int .u32 t12, .int .u32 t13, .int .i64 t14, .int .u32 0]) ?_ 7 _ rfl; (with_reducible repeat (first | refine blk_drewN ?_ _ | refine blk_drew ?_ | refine blk_alloc ?_ _)); refine blk_put (cs := #[.int .u32 t4, .int .i64 t5, .slice Ao93 t6.length co93, .slice Ao94 t9.length co94, .int .u32 t12, .int .u32 t13, .int .i64 0, .int .u32 0]) ?_ 6 _ rfl; (with_reducible repeat (first | refine blk_drewN ?_ _ | refine blk_drew ?_ | refine blk_alloc ?_ _)); refine blk_put (cs := #[.int .u32 t4, .int .i64 t5, .slice Ao93 t6.length co93, .slice Ao94 t9.length co94, .int .u32 t12, .int .u32 0, .int .i64 0, .int .u32 0]) ?_ 5 _ rfl; (with_reducible repeat (first | refine blk_drewN ?_ _ | refine blk_drew ?_ | refine blk_alloc ?_ _)); refine blk_put (cs := #[.int .u32 t4, .int .i64 t5, .slice Ao93 t6.length co93, .slice Ao94 t9.length co94, .int .u32 0, .int .u32 0, .int .i64 0, .int .u32 0]) ?_ 4 _ rfl; (with_reducible repeat (first | refine blk_drewN ?_ _ | refine blk_drew ?_ | refine blk_alloc ?_ _)); refine blk_put (cs := #[.int .u32 t4, .int .i64 t5, .slice Ao93 t6.length co93, .slice none 0 0, .int .u32 0, .int .u32 0, .int .i64 0, .int .u32 0]) ?_ 3 _ rfl; (with_reducible repeat (first | refine blk_drewN ?_ _ | refine blk_drew ?_ | refine blk_alloc ?_ _)); refine blk_put (cs := #[.int .u32 t4, .int .i64 t5, .slice none 0 0, .slice none 0 0, .int .u32 0, .int .u32 0, .int .i64 0, .int .u32 0]) ?_ 2 _ rfl; (with_reducible repeat (first | refine blk_drewN ?_ _ | refine blk_drew ?_ | refine blk_alloc ?_ _)); refine blk_put (cs := #[.int .u32 t4, .int .i64 0, .slice none 0 0, .slice none 0 0, .int .u32 0, .int .u32 0, .int .i64 0, .int .u32 0]) ?_ 1 _ rfl; (with_reducible repeat (first | refine blk_drewN ?_ _ | refine blk_drew ?_ | refine blk_alloc ?_ _)); refine blk_put (cs := #[.int .u32 0, .int .i64 0, .slice none 0 0, .slice none 0 0, .int .u32 0, .int .u32 0, .int .i64 0, .int .u32 0]) ?_ 0 _ rfl; (with_reducible repeat (first | refine blk_drewN ?_ _ | refine blk_drew ?_ | refine blk_alloc ?_ _)); exact BK16.out⟩
    have n4_ : Aside0 (Below w.heap.size w ((((((((w90.setCell ⟨gb16, 0, none⟩ (.int .u32 t4)).setCell ⟨gb16, 1, none⟩ (.int .i64 t5)).setCell ⟨gb16, 2, none⟩ (.slice Ao93 t6.length co93)).setCell ⟨gb16, 3, none⟩ (.slice Ao94 t9.length co94)).setCell ⟨gb16, 4, none⟩ (.int .u32 t12)).setCell ⟨gb16, 5, none⟩ (.int .u32 t13)).setCell ⟨gb16, 6, none⟩ (.int .i64 t14)).setCell ⟨gb16, 7, none⟩ (.int .u32 t15))) := ⟨by repeat (first | (with_reducible first | exact HB.out | apply below_alloc | apply pw_below_drewN | apply below_drew1 | refine below_set ?_ GE1.out | refine below_set ?_ GE16.out) | exact HB.out)⟩
    (try clear HO8)
    (try clear HO11)
    (try clear BK1)
    (try clear BK16)
    (try clear HB)
    generalize ((((((((w90.setCell ⟨gb16, 0, none⟩ (.int .u32 t4)).setCell ⟨gb16, 1, none⟩ (.int .i64 t5)).setCell ⟨gb16, 2, none⟩ (.slice Ao93 t6.length co93)).setCell ⟨gb16, 3, none⟩ (.slice Ao94 t9.length co94)).setCell ⟨gb16, 4, none⟩ (.int .u32 t12)).setCell ⟨gb16, 5, none⟩ (.int .u32 t13)).setCell ⟨gb16, 6, none⟩ (.int .i64 t14)).setCell ⟨gb16, 7, none⟩ (.int .u32 t15)) = w95 at n0_ n1_ n2_ n3_ n4_ ⊢
    have HO8 := n0_
    have HO11 := n1_
    have BK1 := n2_
    have BK16 := n3_
    have HB := n4_
    clear n0_ n1_ n2_ n3_ n4_
    have n0_ := Aside0.mk (Kd.R_drew HO8.out)
    have n1_ := Aside0.mk (Kd.R_drew HO11.out)
    have n2_ := Aside0.mk (blk_drew BK1.out)
    have n3_ := Aside0.mk (blk_drew BK16.out)
    have n4_ := Aside0.mk (below_drew1 HB.out)
    clear HO8
    clear HO11
    clear BK1
    clear BK16
    clear HB
    have HO8 := n0_
    have HO11 := n1_
    have BK1 := n2_
    have BK16 := n3_
    have HB := n4_
    clear n0_ n1_ n2_ n3_ n4_
    refine start_ (n := 15) (S := fun w' => w'.cell? ⟨gb16, 0, none⟩ = some (.int .u32 t4) ∧ w'.cell? ⟨gb16, 1, none⟩ = some (.int .i64 t5) ∧ w'.cell? ⟨gb16, 2, none⟩ = some (.slice Ao93 t6.length co93) ∧ w'.cell? ⟨gb16, 3, none⟩ = some (.slice Ao94 t9.length co94) ∧ w'.cell? ⟨gb16, 4, none⟩ = some (.int .u32 t12) ∧ w'.cell? ⟨gb16, 5, none⟩ = some (.int .u32 t13) ∧ w'.cell? ⟨gb16, 6, none⟩ = some (.int .i64 t14) ∧ w'.cell? ⟨gb16, 7, none⟩ = some (.int .u32 t15)) (ds := []) #[false, false, false, false, false, false, false, false, false, false, false, false, false, false, false] (by kernel_rfl) rfl rfl ⟨(blk_cell BK16.out 0).trans rfl, (blk_cell BK16.out 1).trans rfl, (blk_cell BK16.out 2).trans rfl, (blk_cell BK16.out 3).trans rfl, (blk_cell BK16.out 4).trans rfl, (blk_cell BK16.out 5).trans rfl, (blk_cell BK16.out 6).trans rfl, (blk_cell BK16.out 7).trans rfl⟩ (fun hHeld => ?_); refine with_tabW q17z.tab6 q17z.bits6 (fun HT_ HW_ => ?_)
    generalize w95.drew = w96 at HO8 HO11 BK1 BK16 HB hHeld ⊢
    refine take_ (i := 0) (N := some 10) (v := ?_) (a' := ?_) #[true, false, false, false, false, false, false, false, false, false, false, false, false, false, false] rfl rfl (take_ofW HT_.out HW_.out (by kernel_rfl)) (fun _ _ _ h => h) (Or.inl ⟨by rfl, ?_⟩) hHeld ?_ ?_
    rotate_left
    ·
     rintro w' ⟨s0, s1, s2, s3, s4, s5, s6, s7⟩
     go_simp
     with_reducible rfl
    rotate_left
    ·
     simp only [Act.put, List.setIfInBounds_toArray, List.set_cons_zero, List.set_cons_succ, i64_w, i32_w, IntKind.wrap_u32]
     rfl
    refine take_ (i := 2) (N := some 12) (v := ?_) (a' := ?_) #[true, false, true, false, false, false, false, false, false, false, false, false, false, false, false] rfl rfl (take_ofW HT_.out HW_.out (by kernel_rfl)) (fun _ _ _ h => h) (Or.inl ⟨by rfl, ?_⟩) hHeld ?_ ?_
    rotate_left
    ·
     rintro w' ⟨s0, s1, s2, s3, s4, s5, s6, s7⟩
     go_simp
     with_reducible rfl
    rotate_left
    ·
     simp only [Act.put, List.setIfInBounds_toArray, List.set_cons_zero, List.set_cons_succ, i64_w, i32_w, IntKind.wrap_u32]
     rfl
    refine one_ (i := 1) (N := some 11) #[true, true, true, false, false, false, false, false, false, false, false, false, false, false, false] rfl rfl (one_of HT_.out (by kernel_rfl)) (by decide) (fun K hK => ?_)
    refine goes_ Try.func36 (by kernel_rfl) rfl #[.agg #[.int .u32 t4, .int .i64 t5, .slice Ao93 t6.length co93, .slice Ao94 t9.length co94, .int .u32 t12, .int .u32 t13, .int .i64 t14, .int .u32 t15]] (by rfl) rfl rfl (by (try simp only [List.map_toArray, List.map_cons, List.map_nil]); first | done | rfl | (simp only [List.length_drop, List.length_take]; rfl)) ?_
    with_reducible refine (q6z.calls k t4 t5 _ _ t6 _ _ t9 t12 t13 t14 t15 t17 t18 t19 t22 t25 t26 t27 t28 _ ?side1 ?side2 ?side3 ?side4 A11.out).mono ?_
    (case side1 => repeat (first | exact (Kd.R_reads' HO8.out).2.2 | (with_reducible refine Kd.C_alloc ?_ _) | (with_reducible refine Kd.C_drewN ?_ _) | (with_reducible refine Kd.C_drew ?_)))
    (case side2 => exact (Kd.R_reads' HO8.out).2.1)
    (case side3 => repeat (first | exact (Kd.R_reads' HO11.out).2.2 | (with_reducible refine Kd.C_alloc ?_ _) | (with_reducible refine Kd.C_drewN ?_ _) | (with_reducible refine Kd.C_drew ?_)))
    (case side4 => exact (Kd.R_reads' HO11.out).2.1)
    rintro e w97 ⟨v20, v23, rfl, ho0, ho1, hb⟩
    refine ⟨_, rfl, ?_⟩
    have n0_ := Aside0.mk (Kd.R_mono (Kd.R_told (Kd.R_told (Kd.R_old (by (with_reducible repeat (first | apply Kd.R_alloc | apply Kd.R_drewN | apply Kd.R_drew)); exact HO8.out) hb) (Kd.R_base ho0)) (Kd.R_base ho1)) (fun _ h_ => h_.1))
    have n1_ := Aside0.mk (Kd.R_mono (Kd.R_told (Kd.R_told (Kd.R_old (by (with_reducible repeat (first | apply Kd.R_alloc | apply Kd.R_drewN | apply Kd.R_drew)); exact HO11.out) hb) (Kd.R_base ho0)) (Kd.R_base ho1)) (fun _ h_ => h_.1))
    have n2_ := Aside0.mk (Kd.R_lower (Kd.R_new' (Kd.R_new' ho0 (Kd.R_lt (by (with_reducible repeat (first | apply Kd.R_alloc | apply Kd.R_drewN | apply Kd.R_drew)); exact HO8.out))) (Kd.R_lt (by (with_reducible repeat (first | apply Kd.R_alloc | apply Kd.R_drewN | apply Kd.R_drew)); exact HO11.out))) (below_size (by repeat (first | (with_reducible first | exact HB.out | apply below_alloc | apply pw_below_drewN | apply below_drew1 | refine below_set ?_ GE1.out | refine below_set ?_ GE16.out) | exact HB.out))))
    have n3_ := Aside0.mk (Kd.R_lower (Kd.R_new' (Kd.R_new' ho1 (Kd.R_lt (by (with_reducible repeat (first | apply Kd.R_alloc | apply Kd.R_drewN | apply Kd.R_drew)); exact HO8.out))) (Kd.R_lt (by (with_reducible repeat (first | apply Kd.R_alloc | apply Kd.R_drewN | apply Kd.R_drew)); exact HO11.out))) (below_size (by repeat (first | (with_reducible first | exact HB.out | apply below_alloc | apply pw_below_drewN | apply below_drew1 | refine below_set ?_ GE1.out | refine below_set ?_ GE16.out) | exact HB.out))))
    have n4_ := Aside0.mk (blk_below (g := gb1) (o := .cells #[.int .u32 a0_0, .int .i64 a0_1, .slice A0_2 l0_2.length c0_2, .slice A0_3 l0_3.length c0_3, .int .u32 a0_4, .int .u32 a0_5, .int .i64 a0_6, .int .u32 a0_7] 38 (0, 0)) (by (with_reducible repeat (first | refine blk_drewN ?_ _ | refine blk_drew ?_ | refine blk_alloc ?_ _)); exact BK1.out) hb)
    have n5_ := Aside0.mk (blk_below (g := gb16) (o := .cells #[.int .u32 t4, .int .i64 t5, .slice Ao93 t6.length co93, .slice Ao94 t9.length co94, .int .u32 t12, .int .u32 t13, .int .i64 t14, .int .u32 t15] 38 (0, 0)) (by (with_reducible repeat (first | refine blk_drewN ?_ _ | refine blk_drew ?_ | refine blk_alloc ?_ _)); exact BK16.out) hb)
    have n6_ := Aside0.mk (below_step (by repeat (first | (with_reducible first | exact HB.out | apply below_alloc | apply pw_below_drewN | apply below_drew1 | refine below_set ?_ GE1.out | refine below_set ?_ GE16.out) | exact HB.out)) hb)
    clear HO8
    clear HO11
    clear BK1
    clear BK16
    clear HB
    have HO8 := n0_
    have HO11 := n1_
    have HO21 := n2_
    have HO24 := n3_
    have BK1 := n4_
    have BK16 := n5_
    have HB := n6_
    clear n0_ n1_ n2_ n3_ n4_ n5_ n6_
    (try clear hb)
    (try clear hb2)
    (try clear hk)
    (try clear hi)
    (try clear ho0)
    (try clear ho1)
    obtain ⟨Ao98, co98, eo98⟩ := Kd.R_slice HO21.out
    (first | subst eo98 | (injection eo98 with f1_ f2_ f3_; have f4_ := f1_.symm; have f5_ := f3_.symm; clear f1_ f2_ f3_; subst f4_; subst f5_))
    obtain ⟨Ao99, co99, eo99⟩ := Kd.R_slice HO24.out
    (first | subst eo99 | (injection eo99 with f1_ f2_ f3_; have f4_ := f1_.symm; have f5_ := f3_.symm; clear f1_ f2_ f3_; subst f4_; subst f5_))
    refine hK.out _ _ ⟨(blk_cell BK16.out 0).trans rfl, (blk_cell BK16.out 1).trans rfl, (blk_cell BK16.out 2).trans rfl, (blk_cell BK16.out 3).trans rfl, (blk_cell BK16.out 4).trans rfl, (blk_cell BK16.out 5).trans rfl, (blk_cell BK16.out 6).trans rfl, (blk_cell BK16.out 7).trans rfl⟩ (fun hHeld => ?_)
    clear hK K
    refine norm_ (a' := ?_) ?_ ?_
    rotate_left
    ·
     show Act.put _ (some 11) _ = _
     simp only [Act.put, List.setIfInBounds_toArray, List.set_cons_zero, List.set_cons_succ, i64_w, i32_w, IntKind.wrap_u32]
     rfl
    refine one_ (i := 3) (N := some 13) #[true, true, true, true, false, false, false, false, false, false, false, false, false, false, false] rfl rfl (one_of HT_.out (by kernel_rfl)) (by decide) (fun K hK => ?_)
    refine goes_ Try.func40 (by kernel_rfl) rfl #[.agg #[.int .u32 t17, .int .i64 t18, .slice Ao98 t19.length co98, .slice Ao99 t22.length co99, .int .u32 t25, .int .u32 t26, .int .i64 t27, .int .u32 t28], .agg #[.int .u32 t4, .int .i64 t5, .slice Ao93 t6.length co93, .slice Ao94 t9.length co94, .int .u32 t12, .int .u32 t13, .int .i64 t14, .int .u32 t15]] (by rfl) rfl rfl (by (try simp only [List.map_toArray, List.map_cons, List.map_nil]); first | done | rfl | (simp only [List.length_drop, List.length_take]; rfl)) ?_
    with_reducible refine (q13z.calls k t17 t18 _ _ t19 _ _ t22 t25 t26 t27 t28 t4 t5 _ _ t6 _ _ t9 t12 t13 t14 t15 t29 _ ?side1 ?side2 ?side3 ?side4 ?side5 ?side6 ?side7 ?side8 A12.out).mono ?_
    (case side1 => repeat (first | exact (Kd.R_reads' HO21.out).2.2 | (with_reducible refine Kd.C_alloc ?_ _) | (with_reducible refine Kd.C_drewN ?_ _) | (with_reducible refine Kd.C_drew ?_)))
    (case side2 => exact (Kd.R_reads' HO21.out).2.1)
    (case side3 => repeat (first | exact (Kd.R_reads' HO24.out).2.2 | (with_reducible refine Kd.C_alloc ?_ _) | (with_reducible refine Kd.C_drewN ?_ _) | (with_reducible refine Kd.C_drew ?_)))
    (case side4 => exact (Kd.R_reads' HO24.out).2.1)
    (case side5 => repeat (first | exact (Kd.R_reads' HO8.out).2.2 | (with_reducible refine Kd.C_alloc ?_ _) | (with_reducible refine Kd.C_drewN ?_ _) | (with_reducible refine Kd.C_drew ?_)))
    (case side6 => exact (Kd.R_reads' HO8.out).2.1)
    (case side7 => repeat (first | exact (Kd.R_reads' HO11.out).2.2 | (with_reducible refine Kd.C_alloc ?_ _) | (with_reducible refine Kd.C_drewN ?_ _) | (with_reducible refine Kd.C_drew ?_)))
    (case side8 => exact (Kd.R_reads' HO11.out).2.1)
    rintro e w100 ⟨rfl, hb⟩
    refine ⟨_, rfl, ?_⟩
    have n0_ := Aside0.mk (Kd.R_below (by (with_reducible repeat (first | apply Kd.R_alloc | apply Kd.R_drewN | apply Kd.R_drew)); exact HO8.out) hb)
    have n1_ := Aside0.mk (Kd.R_below (by (with_reducible repeat (first | apply Kd.R_alloc | apply Kd.R_drewN | apply Kd.R_drew)); exact HO11.out) hb)
    have n2_ := Aside0.mk (Kd.R_below (by (with_reducible repeat (first | apply Kd.R_alloc | apply Kd.R_drewN | apply Kd.R_drew)); exact HO21.out) hb)
    have n3_ := Aside0.mk (Kd.R_below (by (with_reducible repeat (first | apply Kd.R_alloc | apply Kd.R_drewN | apply Kd.R_drew)); exact HO24.out) hb)
    have n4_ := Aside0.mk (blk_below (g := gb1) (o := .cells #[.int .u32 a0_0, .int .i64 a0_1, .slice A0_2 l0_2.length c0_2, .slice A0_3 l0_3.length c0_3, .int .u32 a0_4, .int .u32 a0_5, .int .i64 a0_6, .int .u32 a0_7] 38 (0, 0)) (by (with_reducible repeat (first | refine blk_drewN ?_ _ | refine blk_drew ?_ | refine blk_alloc ?_ _)); exact BK1.out) hb)
    have n5_ := Aside0.mk (blk_below (g := gb16) (o := .cells #[.int .u32 t4, .int .i64 t5, .slice Ao93 t6.length co93, .slice Ao94 t9.length co94, .int .u32 t12, .int .u32 t13, .int .i64 t14, .int .u32 t15] 38 (0, 0)) (by (with_reducible repeat (first | refine blk_drewN ?_ _ | refine blk_drew ?_ | refine blk_alloc ?_ _)); exact BK16.out) hb)
    have n6_ := Aside0.mk (below_step (by repeat (first | (with_reducible first | exact HB.out | apply below_alloc | apply pw_below_drewN | apply below_drew1 | refine below_set ?_ GE1.out | refine below_set ?_ GE16.out) | exact HB.out)) hb)
    clear HO8
    clear HO11
    clear HO21
    clear HO24
    clear BK1
    clear BK16
    clear HB
    have HO8 := n0_
    have HO11 := n1_
    have HO21 := n2_
    have HO24 := n3_
    have BK1 := n4_
    have BK16 := n5_
    have HB := n6_
    clear n0_ n1_ n2_ n3_ n4_ n5_ n6_
    (try clear hb)
    (try clear hb2)
    (try clear hk)
    (try clear hi)
    refine hK.out _ _ ⟨(blk_cell BK16.out 0).trans rfl, (blk_cell BK16.out 1).trans rfl, (blk_cell BK16.out 2).trans rfl, (blk_cell BK16.out 3).trans rfl, (blk_cell BK16.out 4).trans rfl, (blk_cell BK16.out 5).trans rfl, (blk_cell BK16.out 6).trans rfl, (blk_cell BK16.out 7).trans rfl⟩ (fun hHeld => ?_)
    clear hK K
    refine norm_ (a' := ?_) ?_ ?_
    rotate_left
    ·
     show Act.put _ (some 13) _ = _
     simp only [Act.put, List.setIfInBounds_toArray, List.set_cons_zero, List.set_cons_succ, i64_w, i32_w, IntKind.wrap_u32]
     rfl
    refine pure_ (i := 4) (N := some 14) (v := ?_) (a' := ?_) #[true, true, true, true, true, false, false, false, false, false, false, false, false, false, false] rfl rfl (any_of HT_.out (by kernel_rfl)) (fun _ _ _ h => h) (Or.inl ⟨by rfl, ?_⟩) ?_ ?_
    rotate_left
    ·
     intro w'
     go_simp
     with_reducible rfl
    rotate_left
    ·
     simp only [Act.put, List.setIfInBounds_toArray, List.set_cons_zero, List.set_cons_succ, i64_w, i32_w, IntKind.wrap_u32]
     rfl
    refine pure_ (i := 5) (N := some 15) (v := ?_) (a' := ?_) #[true, true, true, true, true, true, false, false, false, false, false, false, false, false, false] rfl rfl (any_of HT_.out (by kernel_rfl)) (fun _ _ _ h => h) (Or.inl ⟨by rfl, ?_⟩) ?_ ?_
    rotate_left
    ·
     intro w'
     go_simp
     with_reducible rfl
    rotate_left
    ·
     simp only [Act.put, List.setIfInBounds_toArray, List.set_cons_zero, List.set_cons_succ, i64_w, i32_w, IntKind.wrap_u32]
     rfl
    refine pure_ (i := 6) (N := some 16) (v := undef) (a' := ?_) #[true, true, true, true, true, true, true, false, false, false, false, false, false, false, false] rfl rfl (any_of HT_.out (by kernel_rfl)) (fun _ _ _ h => h) (Or.inr ⟨by rfl, rfl⟩) ?_ ?_
    rotate_left
    ·
     simp only [Act.put, List.setIfInBounds_toArray, List.set_cons_zero, List.set_cons_succ, i64_w, i32_w, IntKind.wrap_u32]
     rfl
    refine pure_ (i := 7) (N := some 17) (v := undef) (a' := ?_) #[true, true, true, true, true, true, true, true, false, false, false, false, false, false, false] rfl rfl (any_of HT_.out (by kernel_rfl)) (fun _ _ _ h => h) (Or.inr ⟨by rfl, rfl⟩) ?_ ?_
    rotate_left
    ·
     simp only [Act.put, List.setIfInBounds_toArray, List.set_cons_zero, List.set_cons_succ, i64_w, i32_w, IntKind.wrap_u32]
     rfl
    refine pure_ (i := 8) (N := some 18) (v := undef) (a' := ?_) #[true, true, true, true, true, true, true, true, true, false, false, false, false, false, false] rfl rfl (any_of HT_.out (by kernel_rfl)) (fun _ _ _ h => h) (Or.inr ⟨by rfl, rfl⟩) ?_ ?_
    rotate_left
    ·
     simp only [Act.put, List.setIfInBounds_toArray, List.set_cons_zero, List.set_cons_succ, i64_w, i32_w, IntKind.wrap_u32]
     rfl
    refine pure_ (i := 9) (N := some 19) (v := undef) (a' := ?_) #[true, true, true, true, true, true, true, true, true, true, false, false, false, false, false] rfl rfl (any_of HT_.out (by kernel_rfl)) (fun _ _ _ h => h) (Or.inr ⟨by rfl, rfl⟩) ?_ ?_
    rotate_left
    ·
     simp only [Act.put, List.setIfInBounds_toArray, List.set_cons_zero, List.set_cons_succ, i64_w, i32_w, IntKind.wrap_u32]
     rfl
    refine pure_ (i := 10) (N := some 20) (v := undef) (a' := ?_) #[true, true, true, true, true, true, true, true, true, true, true, false, false, false, false] rfl rfl (any_of HT_.out (by kernel_rfl)) (fun _ _ _ h => h) (Or.inr ⟨by rfl, rfl⟩) ?_ ?_
    rotate_left
    ·
     simp only [Act.put, List.setIfInBounds_toArray, List.set_cons_zero, List.set_cons_succ, i64_w, i32_w, IntKind.wrap_u32]
     rfl
    refine pure_ (i := 11) (N := some 21) (v := undef) (a' := ?_) #[true, true, true, true, true, true, true, true, true, true, true, true, false, false, false] rfl rfl (any_of HT_.out (by kernel_rfl)) (fun _ _ _ h => h) (Or.inr ⟨by rfl, rfl⟩) ?_ ?_
    rotate_left
    ·
     simp only [Act.put, List.setIfInBounds_toArray, List.set_cons_zero, List.set_cons_succ, i64_w, i32_w, IntKind.wrap_u32]
     rfl
    refine pure_ (i := 12) (N := some 22) (v := undef) (a' := ?_) #[true, true, true, true, true, true, true, true, true, true, true, true, true, false, false] rfl rfl (any_of HT_.out (by kernel_rfl)) (fun _ _ _ h => h) (Or.inr ⟨by rfl, rfl⟩) ?_ ?_
    rotate_left
    ·
     simp only [Act.put, List.setIfInBounds_toArray, List.set_cons_zero, List.set_cons_succ, i64_w, i32_w, IntKind.wrap_u32]
     rfl
    refine pure_ (i := 13) (N := some 23) (v := undef) (a' := ?_) #[true, true, true, true, true, true, true, true, true, true, true, true, true, true, false] rfl rfl (any_of HT_.out (by kernel_rfl)) (fun _ _ _ h => h) (Or.inr ⟨by rfl, rfl⟩) ?_ ?_
    rotate_left
    ·
     simp only [Act.put, List.setIfInBounds_toArray, List.set_cons_zero, List.set_cons_succ, i64_w, i32_w, IntKind.wrap_u32]
     rfl
    refine pure_ (i := 14) (N := some 24) (v := ?_) (a' := ?_) #[true, true, true, true, true, true, true, true, true, true, true, true, true, true, true] rfl rfl (any_of HT_.out (by kernel_rfl)) (fun _ _ _ h => h) (Or.inl ⟨by rfl, ?_⟩) ?_ ?_
    rotate_left
    ·
     intro w'
     go_simp
     with_reducible rfl
    rotate_left
    ·
     simp only [Act.put, List.setIfInBounds_toArray, List.set_cons_zero, List.set_cons_succ, i64_w, i32_w, IntKind.wrap_u32]
     rfl
    refine done_ (done_of HT_.out (by kernel_rfl)) ?_
    try go_wp2
    go_ret
    exact ⟨by first | rfl | (simp [errW_none, errW_some] <;> rfl) | (simp [*, errW_none, errW_some] <;> rfl), by repeat (first | (with_reducible first | exact HB.out | apply below_alloc | apply pw_below_drewN | apply below_drew1 | refine below_set ?_ GE1.out | refine below_set ?_ GE16.out) | exact HB.out)⟩
 ·
  replace c3 := Bool.eq_false_iff.mpr c3
  subst c3
  have H1 : (some false) = some r := by rw [if_neg (show ¬ (false = true) by decide)] at H; exact H
  clear H
  have H := H1
  clear H1
  obtain rfl := Option.some.inj H
  go_enter Try.func10, Try.ntmps10
  go_wp2_with (first | ((with_reducible refine gate_dst (N := 1) rfl ?_); refine box_event ?hg (N := 1) ?hd (cs := #[.int .u32 a0_0, .int .i64 a0_1, .slice A0_2 l0_2.length c0_2, .slice A0_3 l0_3.length c0_3, .int .u32 a0_4, .int .u32 a0_5, .int .i64 a0_6, .int .u32 a0_7]) (t := 38) ?hr ?_; (case hd => rfl); (case hg => rfl); (case hr => first | (go_simp; done) | (go_simp; rfl)); intro gb1 hg w101 hbox hb; have n0_ := Aside0.mk (below_step (by repeat (first | (with_reducible first | exact HB.out | apply below_alloc | apply pw_below_drewN | apply below_drew1) | exact HB.out)) hb); have n1_ := Aside0.mk (hbox); have n2_ := Aside0.mk ((by rw [hg]; exact (below_size (by repeat (first | (with_reducible first | exact HB.out | apply below_alloc | apply pw_below_drewN | apply below_drew1) | exact HB.out))) : w.heap.size ≤ gb1)); have n3_ := Aside0.mk ((by rw [hg]; exact (below_size (by repeat (first | (with_reducible first | exact HB.out | apply below_alloc | apply pw_below_drewN | apply below_drew1) | exact HB.out))) : w.heap.size ≤ gb1)); clear HB; have HB := n0_; have BK1 := n1_; have GW1 := n2_; have GE1 := n3_; clear n0_ n1_ n2_ n3_; clear hb hbox hg) | ((with_reducible refine gate_callee (f := 29) rfl ?_); refine goesL_ (some 4) rfl rfl Try.func29 (by kernel_rfl) rfl #[] rfl (by (try simp only [List.map_toArray, List.map_cons, List.map_nil]); first | done | rfl | (simp only [List.length_drop, List.length_take]; rfl)) ?_; (with_reducible refine (q15z.calls k  false _ A2.out).mono ?_); rintro e w102 ⟨rfl, hb⟩; refine ⟨_, rfl, ?_⟩; have n0_ := Aside0.mk (blk_below (g := gb1) (o := .cells #[.int .u32 a0_0, .int .i64 a0_1, .slice A0_2 l0_2.length c0_2, .slice A0_3 l0_3.length c0_3, .int .u32 a0_4, .int .u32 a0_5, .int .i64 a0_6, .int .u32 a0_7] 38 (0, 0)) (by (with_reducible repeat (first | refine blk_drewN ?_ _ | refine blk_drew ?_ | refine blk_alloc ?_ _)); exact BK1.out) hb); have n1_ := Aside0.mk (below_step (by repeat (first | (with_reducible first | exact HB.out | apply below_alloc | apply pw_below_drewN | apply below_drew1 | refine below_set ?_ GE1.out) | exact HB.out)) hb); clear BK1; clear HB; have BK1 := n0_; have HB := n1_; clear n0_ n1_; (try clear hb); (try clear hb2); (try clear hk); (try clear hi)))
  go_ret
  exact ⟨by first | rfl | (simp [errW_none, errW_some] <;> rfl) | (simp [*, errW_none, errW_some] <;> rfl), by repeat (first | (with_reducible first | exact HB.out | apply below_alloc | apply pw_below_drewN | apply below_drew1 | refine below_set ?_ GE1.out) | exact HB.out)⟩

end Go.Proofs.Ythekledcoeeheaa.P

namespace Go.Proofs.Ythekledcoeeheaa.P
open Go.RowKit Go.Proofs.YthekledcoeeheaaW.PrintWords Go.Proofs.YthekledcoeeheaaW.PrintLast Go.Proofs.YthekledcoeeheaaW.PrintMore Go.ChangeShapes Go.WideShapes
set_option linter.unusedVariables false
section
variable {H : Type} {enc : TypeId × Value → H} {P : Program} {w : World} {base : Nat} {spare : Nat → Bool} {held : Bool}
/-- Whatever reads as data of type T is a value of kind d. -/
def Opens (enc : TypeId × Value → H) (P : Program) (w : World) (base : Nat) (spare : Nat → Bool) (held : Bool) {α : Type} (d : Kd α) (T : TypeId) (good : α → Prop) : Prop :=
  ∀ fuel cs y, DataW.trod enc P w base spare held fuel T cs = some y → ∃ x, d.K w x cs ∧ good x
theorem opens_int {k : IntKind} {T : TypeId} (ht : P.underlying T = some (.int k)) : Opens enc P w base spare held (Kd.int k) T (fun n => (Lit.int k n).wf = true) := by
  intro fuel cs y h
  obtain ⟨n, rfl, _, hw⟩ := DataW.trod_int ht h
  exact ⟨n, rfl, hw⟩
theorem opens_string {T : TypeId} (ht : P.underlying T = some .string) : Opens enc P w base spare held Kd.string T (fun s => s.size ≤ maxLen) := by
  intro fuel cs y h
  obtain ⟨s, rfl, _, hw⟩ := DataW.trod_string ht h
  exact ⟨s, rfl, hw⟩
theorem opens_bool {T : TypeId} (ht : P.underlying T = some .bool) : Opens enc P w base spare held Kd.bool T (fun _ => True) := by
  intro fuel cs y h
  cases fuel with
  | zero => simp [DataW.trod] at h
  | succ n =>
    unfold DataW.trod at h
    rw [ht] at h
    split at h
    all_goals first | exact ⟨_, rfl, trivial⟩ | (exfalso; simp_all; done)
theorem pick_list {α : Type} {Q : Nat → α → Prop} : ∀ n : Nat, (∀ i, i < n → ∃ x, Q i x) → ∃ xs : List α, xs.length = n ∧ ∀ i x, xs[i]? = some x → Q i x
  | 0, _ => ⟨[], rfl, fun i x h => by simp at h⟩
  | n + 1, h => by
    obtain ⟨xs, hl, hx⟩ := pick_list n (fun i hi => h i (by omega))
    obtain ⟨x, hxn⟩ := h n (by omega)
    refine ⟨xs ++ [x], by simp [hl], fun i z hz => ?_⟩
    by_cases hi : i < n
    · rw [List.getElem?_append_left (by omega)] at hz
      exact hx i z hz
    · rw [List.getElem?_append_right (by omega)] at hz
      have hi0 : i - xs.length = 0 := by
        have := (List.getElem?_eq_some_iff.1 hz).1
        simp at this
        omega
      rw [hi0] at hz
      have : x = z := by simpa using hz
      subst this
      have : i = n := by omega
      subst this
      exact hxn
theorem opens_slice {α : Type} {d : Kd α} {T e : TypeId} {good : α → Prop} (ht : P.underlying T = some (.slice e)) (hce : P.cellsOf e = d.sz) (ho : Opens enc P w base spare held d e good) :
    Opens enc P w base spare held (Kd.slice e d) T (fun xs => xs.length ≤ 9223372036854775807 ∧ ∀ x ∈ xs, good x) := by
  intro fuel cs y h
  rcases Go.Deep.open_slice ht h with ⟨rfl, _⟩ | ⟨a, len, cap, m, n, D, Pl, rfl, hb, hl, hm, hmm, _, hx⟩
  · exact ⟨[], ⟨none, 0, rfl, Nat.le_refl _, ⟨rfl, by simp, fun h => absurd h (by simp)⟩⟩, by simp, fun x hx => (List.not_mem_nil hx).elim⟩
  · have hlm : len ≤ m := by rw [hmm]; split <;> omega
    have each : ∀ i, i < len → ∃ q : α × List Value, w.cells? base (a.add (i * d.sz)) d.sz = some q.2 ∧ d.K w q.1 q.2 ∧ good q.1 := fun i hi => by
      obtain ⟨cs', h1, h2⟩ := hx i (by omega)
      obtain ⟨x, hk, hg⟩ := ho _ _ _ h2
      rw [hce] at h1
      exact ⟨(x, cs'), h1, hk, hg⟩
    obtain ⟨qs, hql, hq⟩ := pick_list len each
    refine ⟨qs.map (·.1), ⟨some a, cap, by simp [hql], by simp [hql]; omega, ?_⟩, by simp only [List.length_map, hql]; unfold maxLen at hm; omega, ?_⟩
    · refine ⟨rfl, by simp only [List.length_map, hql]; unfold maxLen at hm; omega, fun _ => ⟨a, rfl, fun j p hp => ?_⟩⟩
      rw [List.getElem?_map] at hp
      obtain ⟨q, hqj, rfl⟩ := Option.map_eq_some_iff.1 hp
      obtain ⟨h1, h2, _⟩ := hq j q hqj
      obtain ⟨_, h4, h5⟩ := World.cells?_some h1
      refine ⟨q.2, h4, h2, fun i u hu => ?_⟩
      have hi : i < d.sz := by have := (List.getElem?_eq_some_iff.1 hu).1; omega
      have h6 := h5 i hi
      rw [add_add] at h6
      rw [h6, hu]
    · intro x hx'
      obtain ⟨q, hq', rfl⟩ := List.mem_map.1 hx'
      obtain ⟨i, hi⟩ := List.getElem?_of_mem hq'
      exact (hq i q hi).2.2
end
end Go.Proofs.Ythekledcoeeheaa.P

namespace Go.Proofs.Ythekledcoeeheaa.P
open Go.RowKit Go.Proofs.YthekledcoeeheaaW.PrintWords Go.Proofs.YthekledcoeeheaaW.PrintMore Go.ChangeShapes Go.WideShapes
set_option linter.unusedVariables false
def good35 (x : S35) : Prop := (Lit.int .u32 x.f0).wf = true ∧ (Lit.int .i64 x.f1).wf = true
theorem opens_T35 {H : Type} {enc : TypeId × Value → H} {w : World} {base : Nat} {spare : Nat → Bool} {held : Bool} : Opens enc Try.prog w base spare held k35 35 good35 := by
  intro fuel cs y h
  obtain ⟨xs, n, _, _, hlen, hxl, hf⟩ := DataW.trod_struct Try.underlying35 h
  have hcs : cs.length = 2 := hlen.trans (by kernel_rfl)
  have h0 := hf 0 _ rfl
  obtain ⟨y0, e0⟩ : ∃ y_, xs[0]? = some y_ := ⟨_, List.getElem?_eq_getElem (by rw [hxl]; decide)⟩
  rw [e0] at h0
  have q0 : DataW.trod enc Try.prog w base spare held n 33 ((cs.drop 0).take 1) = some y0 := (congrArg (fun z => DataW.trod enc Try.prog w base spare held n 33 ((cs.drop 0).take z)) (show 1 = Try.prog.cellsOf 33 from by kernel_rfl)).trans h0
  obtain ⟨x0, k0_, g0⟩ := (opens_int Try.underlying33) _ _ _ q0
  have h1 := hf 1 _ rfl
  obtain ⟨y1, e1⟩ : ∃ y_, xs[1]? = some y_ := ⟨_, List.getElem?_eq_getElem (by rw [hxl]; decide)⟩
  rw [e1] at h1
  have q1 : DataW.trod enc Try.prog w base spare held n 3 ((cs.drop 1).take 1) = some y1 := (congrArg (fun z => DataW.trod enc Try.prog w base spare held n 3 ((cs.drop 1).take z)) (show 1 = Try.prog.cellsOf 3 from by kernel_rfl)).trans h1
  obtain ⟨x1, k1_, g1⟩ := (opens_int Try.underlying3) _ _ _ q1
  have s0 : cs.drop 0 = (cs.drop 0).take 1 ++ cs.drop 1 := by have e_ := (List.take_append_drop 1 (cs.drop 0)).symm; rwa [List.drop_drop] at e_
  have s1 : cs.drop 1 = (cs.drop 1).take 1 := (List.take_of_length_le (by rw [List.length_drop, hcs]; decide)).symm
  exact ⟨⟨x0, x1⟩, ⟨(cs.drop 0).take 1, cs.drop 1, (show cs = _ from s0), k0_, (by rw [s1]; exact k1_)⟩, g0, g1⟩
def good38 (x : S38) : Prop := good35 x.f0 ∧ (x.f1.length ≤ 9223372036854775807 ∧ ∀ z_ ∈ x.f1, (Lit.int .u32 z_).wf = true) ∧ (x.f2.length ≤ 9223372036854775807 ∧ ∀ z_ ∈ x.f2, (Lit.int .u32 z_).wf = true) ∧ (Lit.int .u32 x.f3).wf = true ∧ (Lit.int .u32 x.f4).wf = true ∧ (Lit.int .i64 x.f5).wf = true ∧ (Lit.int .u32 x.f6).wf = true
theorem opens_T38 {H : Type} {enc : TypeId × Value → H} {w : World} {base : Nat} {spare : Nat → Bool} {held : Bool} : Opens enc Try.prog w base spare held k38 38 good38 := by
  intro fuel cs y h
  obtain ⟨xs, n, _, _, hlen, hxl, hf⟩ := DataW.trod_struct Try.underlying38 h
  have hcs : cs.length = 8 := hlen.trans (by kernel_rfl)
  have h0 := hf 0 _ rfl
  obtain ⟨y0, e0⟩ : ∃ y_, xs[0]? = some y_ := ⟨_, List.getElem?_eq_getElem (by rw [hxl]; decide)⟩
  rw [e0] at h0
  have q0 : DataW.trod enc Try.prog w base spare held n 35 ((cs.drop 0).take 2) = some y0 := (congrArg (fun z => DataW.trod enc Try.prog w base spare held n 35 ((cs.drop 0).take z)) (show 2 = Try.prog.cellsOf 35 from by kernel_rfl)).trans h0
  obtain ⟨x0, k0_, g0⟩ := opens_T35 _ _ _ q0
  have h1 := hf 1 _ rfl
  obtain ⟨y1, e1⟩ : ∃ y_, xs[1]? = some y_ := ⟨_, List.getElem?_eq_getElem (by rw [hxl]; decide)⟩
  rw [e1] at h1
  have q1 : DataW.trod enc Try.prog w base spare held n 36 ((cs.drop 2).take 1) = some y1 := (congrArg (fun z => DataW.trod enc Try.prog w base spare held n 36 ((cs.drop 2).take z)) (show 1 = Try.prog.cellsOf 36 from by kernel_rfl)).trans h1
  obtain ⟨x1, k1_, g1⟩ := (opens_slice Try.underlying36 (by kernel_rfl) (opens_int Try.underlying33)) _ _ _ q1
  have h2 := hf 2 _ rfl
  obtain ⟨y2, e2⟩ : ∃ y_, xs[2]? = some y_ := ⟨_, List.getElem?_eq_getElem (by rw [hxl]; decide)⟩
  rw [e2] at h2
  have q2 : DataW.trod enc Try.prog w base spare held n 36 ((cs.drop 3).take 1) = some y2 := (congrArg (fun z => DataW.trod enc Try.prog w base spare held n 36 ((cs.drop 3).take z)) (show 1 = Try.prog.cellsOf 36 from by kernel_rfl)).trans h2
  obtain ⟨x2, k2_, g2⟩ := (opens_slice Try.underlying36 (by kernel_rfl) (opens_int Try.underlying33)) _ _ _ q2
  have h3 := hf 3 _ rfl
  obtain ⟨y3, e3⟩ : ∃ y_, xs[3]? = some y_ := ⟨_, List.getElem?_eq_getElem (by rw [hxl]; decide)⟩
  rw [e3] at h3
  have q3 : DataW.trod enc Try.prog w base spare held n 33 ((cs.drop 4).take 1) = some y3 := (congrArg (fun z => DataW.trod enc Try.prog w base spare held n 33 ((cs.drop 4).take z)) (show 1 = Try.prog.cellsOf 33 from by kernel_rfl)).trans h3
  obtain ⟨x3, k3_, g3⟩ := (opens_int Try.underlying33) _ _ _ q3
  have h4 := hf 4 _ rfl
  obtain ⟨y4, e4⟩ : ∃ y_, xs[4]? = some y_ := ⟨_, List.getElem?_eq_getElem (by rw [hxl]; decide)⟩
  rw [e4] at h4
  have q4 : DataW.trod enc Try.prog w base spare held n 33 ((cs.drop 5).take 1) = some y4 := (congrArg (fun z => DataW.trod enc Try.prog w base spare held n 33 ((cs.drop 5).take z)) (show 1 = Try.prog.cellsOf 33 from by kernel_rfl)).trans h4
  obtain ⟨x4, k4_, g4⟩ := (opens_int Try.underlying33) _ _ _ q4
  have h5 := hf 5 _ rfl
  obtain ⟨y5, e5⟩ : ∃ y_, xs[5]? = some y_ := ⟨_, List.getElem?_eq_getElem (by rw [hxl]; decide)⟩
  rw [e5] at h5
  have q5 : DataW.trod enc Try.prog w base spare held n 3 ((cs.drop 6).take 1) = some y5 := (congrArg (fun z => DataW.trod enc Try.prog w base spare held n 3 ((cs.drop 6).take z)) (show 1 = Try.prog.cellsOf 3 from by kernel_rfl)).trans h5
  obtain ⟨x5, k5_, g5⟩ := (opens_int Try.underlying3) _ _ _ q5
  have h6 := hf 6 _ rfl
  obtain ⟨y6, e6⟩ : ∃ y_, xs[6]? = some y_ := ⟨_, List.getElem?_eq_getElem (by rw [hxl]; decide)⟩
  rw [e6] at h6
  have q6 : DataW.trod enc Try.prog w base spare held n 33 ((cs.drop 7).take 1) = some y6 := (congrArg (fun z => DataW.trod enc Try.prog w base spare held n 33 ((cs.drop 7).take z)) (show 1 = Try.prog.cellsOf 33 from by kernel_rfl)).trans h6
  obtain ⟨x6, k6_, g6⟩ := (opens_int Try.underlying33) _ _ _ q6
  have s0 : cs.drop 0 = (cs.drop 0).take 2 ++ cs.drop 2 := by have e_ := (List.take_append_drop 2 (cs.drop 0)).symm; rwa [List.drop_drop] at e_
  have s1 : cs.drop 2 = (cs.drop 2).take 1 ++ cs.drop 3 := by have e_ := (List.take_append_drop 1 (cs.drop 2)).symm; rwa [List.drop_drop] at e_
  have s2 : cs.drop 3 = (cs.drop 3).take 1 ++ cs.drop 4 := by have e_ := (List.take_append_drop 1 (cs.drop 3)).symm; rwa [List.drop_drop] at e_
  have s3 : cs.drop 4 = (cs.drop 4).take 1 ++ cs.drop 5 := by have e_ := (List.take_append_drop 1 (cs.drop 4)).symm; rwa [List.drop_drop] at e_
  have s4 : cs.drop 5 = (cs.drop 5).take 1 ++ cs.drop 6 := by have e_ := (List.take_append_drop 1 (cs.drop 5)).symm; rwa [List.drop_drop] at e_
  have s5 : cs.drop 6 = (cs.drop 6).take 1 ++ cs.drop 7 := by have e_ := (List.take_append_drop 1 (cs.drop 6)).symm; rwa [List.drop_drop] at e_
  have s6 : cs.drop 7 = (cs.drop 7).take 1 := (List.take_of_length_le (by rw [List.length_drop, hcs]; decide)).symm
  exact ⟨⟨x0, x1, x2, x3, x4, x5, x6⟩, ⟨(cs.drop 0).take 2, cs.drop 2, (show cs = _ from s0), k0_, ⟨(cs.drop 2).take 1, cs.drop 3, s1, k1_, ⟨(cs.drop 3).take 1, cs.drop 4, s2, k2_, ⟨(cs.drop 4).take 1, cs.drop 5, s3, k3_, ⟨(cs.drop 5).take 1, cs.drop 6, s4, k4_, ⟨(cs.drop 6).take 1, cs.drop 7, s5, k5_, (by rw [s6]; exact k6_)⟩⟩⟩⟩⟩⟩, g0, g1, g2, g3, g4, g5, g6⟩
end Go.Proofs.Ythekledcoeeheaa.P

namespace Go.Proofs.Ythekledcoeeheaa.P
open Go.RowKit Go.Proofs.YthekledcoeeheaaW.PrintWords Go.Proofs.YthekledcoeeheaaW.PrintLast Go.Proofs.YthekledcoeeheaaW.PrintMore
attribute [local go_sem] max2_int min2_int max_two min_two max_three min_three max_four min_four
set_option linter.unusedVariables false
set_option linter.unusedSimpArgs false

/-! ### dragomanref03_number: function 61 -/
def q18z.f (a0 : Int) (a1 : Int) : Option (Int) := if a0 < a1 then (some (-1)) else (if a0 > a1 then (some 1) else (some 0))
set_option maxHeartbeats 8000000 in
set_option maxRecDepth 100000 in
theorem q18z.calls (a0 : Int) (a1 : Int) (r : Int) (w : World) (h : q18z.f a0 a1 = some r) :
  Calls Try.prog 61 #[.int .i64 a0, .int .i64 a1] w fun e w' => e = .returned (.int .i64 r) ∧ Drawn0 w w' := by
 have H : (if a0 < a1 then (some (-1)) else (if a0 > a1 then (some 1) else (some 0))) = some r := h
 clear h
 by_cases c3 : a0 < a1
 ·
  rw [if_pos c3] at H
  have c3b0 : decide (a0 < a1) = true := decide_eq_true c3
  clear c3
  obtain rfl := Option.some.inj H
  go_enter Try.func61, Try.ntmps61
  go_wp2
  go_ret
  exact ⟨by first | rfl | (simp; done) | (simp [*]; done), by repeat (first | exact Drawn0.refl _ | apply Drawn0.step)⟩
 ·
  rw [if_neg c3] at H
  have c3b0 : decide (a0 < a1) = false := decide_eq_false c3
  clear c3
  by_cases c4 : a0 > a1
  ·
   rw [if_pos c4] at H
   have c4b0 : decide (a1 < a0) = true := decide_eq_true c4
   clear c4
   obtain rfl := Option.some.inj H
   go_enter Try.func61, Try.ntmps61
   go_wp2
   go_ret
   exact ⟨by first | rfl | (simp; done) | (simp [*]; done), by repeat (first | exact Drawn0.refl _ | apply Drawn0.step)⟩
  ·
   rw [if_neg c4] at H
   have c4b0 : decide (a1 < a0) = false := decide_eq_false c4
   clear c4
   obtain rfl := Option.some.inj H
   go_enter Try.func61, Try.ntmps61
   go_wp2
   go_ret
   exact ⟨by first | rfl | (simp; done) | (simp [*]; done), by repeat (first | exact Drawn0.refl _ | apply Drawn0.step)⟩

end Go.Proofs.Ythekledcoeeheaa.P

namespace Go.Proofs.Ythekledcoeeheaa.P
open Go.RowKit Go.Proofs.YthekledcoeeheaaW.PrintWords Go.Proofs.YthekledcoeeheaaW.PrintLast Go.Proofs.YthekledcoeeheaaW.PrintMore
attribute [local go_sem] max2_int min2_int max_two min_two max_three min_three max_four min_four
set_option linter.unusedVariables false
set_option linter.unusedSimpArgs false

/-! ### dragomanref03_list: function 62 -/
mutual
def q19z.l0 : Nat → List Int → List Int → Int → Option (Int)
 | 0, _, _, _ => none
 | k + 1, x0, x1, x5 => if x5 < (x0.length : Int) then (q19z.j1 k x0 x1 x5 (decide (x5 < (x1.length : Int)))) else (q19z.j1 k x0 x1 x5 false)
def q19z.j1 : Nat → List Int → List Int → Int → Bool → Option (Int)
 | 0, _, _, _, _ => none
 | k + 1, x0, x1, x5, x15 => if x15 = true then (if 0 ≤ x5 then (if x5 < (x0.length : Int) then (if x5 < (x1.length : Int) then (if (rd x0 x5) = (rd x1 x5) then (q19z.l0 k x0 x1 (wrap64 (x5 + 1))) else ((q18z.f (wrap64 (rd x0 x5)) (wrap64 (rd x1 x5))).bind fun t5 => (some t5))) else (none)) else (none)) else (none)) else ((q18z.f (x0.length : Int) (x1.length : Int)).bind fun t6 => (some t6))
end
def q19z.f (k : Nat) (l0 : List Int) (l1 : List Int) : Option (Int) := q19z.l0 k l0 l1 0
theorem q19z.mono_l : ∀ k, (∀ y0 y1 y2, LeO (q19z.l0 k y0 y1 y2) (q19z.l0 (k + 1) y0 y1 y2)) ∧ (∀ y0 y1 y2 y3, LeO (q19z.j1 k y0 y1 y2 y3) (q19z.j1 (k + 1) y0 y1 y2 y3))
 | 0 => ⟨fun _ _ _ r h => by simp [q19z.l0] at h, fun _ _ _ _ r h => by simp [q19z.j1] at h⟩
 | k + 1 => by
  obtain ⟨ih0, ih1⟩ := q19z.mono_l k
  refine ⟨?_, ?_⟩
  ·
   intro y0 y1 y2
   unfold q19z.l0
   repeat' first
   | (with_reducible exact ih0 _ _ _)
   | (with_reducible exact ih1 _ _ _ _)
   | (with_reducible exact LeO.refl _)
   | (with_reducible exact LeO.none _)
   | (with_reducible refine LeO.ite ?_ ?_)
   | (with_reducible refine LeO.bind ?_ (fun _ => ?_))
   | exact ih0 _ _ _
   | exact ih1 _ _ _ _
   | exact LeO.none _
   | refine LeO.ite ?_ ?_
   | refine LeO.bind ?_ (fun _ => ?_)
  ·
   intro y0 y1 y2 y3
   unfold q19z.j1
   repeat' first
   | (with_reducible exact ih0 _ _ _)
   | (with_reducible exact ih1 _ _ _ _)
   | (with_reducible exact LeO.refl _)
   | (with_reducible exact LeO.none _)
   | (with_reducible refine LeO.ite ?_ ?_)
   | (with_reducible refine LeO.bind ?_ (fun _ => ?_))
   | exact ih0 _ _ _
   | exact ih1 _ _ _ _
   | exact LeO.none _
   | refine LeO.ite ?_ ?_
   | refine LeO.bind ?_ (fun _ => ?_)
theorem q19z.mono : ∀ a0 a1 k, LeO (q19z.f k a0 a1) (q19z.f (k + 1) a0 a1) := by
 intro a0 a1 k
 obtain ⟨ih0, ih1⟩ := q19z.mono_l k
 unfold q19z.f
 repeat' first
   | (with_reducible exact ih0 _ _ _)
   | (with_reducible exact ih1 _ _ _ _)
   | (with_reducible exact LeO.refl _)
   | (with_reducible exact LeO.none _)
   | (with_reducible refine LeO.ite ?_ ?_)
   | (with_reducible refine LeO.bind ?_ (fun _ => ?_))
   | exact ih0 _ _ _
   | exact ih1 _ _ _ _
   | exact LeO.none _
   | refine LeO.ite ?_ ?_
   | refine LeO.bind ?_ (fun _ => ?_)
set_option maxHeartbeats 8000000 in
set_option maxRecDepth 100000 in
theorem q19z.calls (k : Nat) (A0 : Option Addr) (c0 : Nat) (l0 : List Int) (A1 : Option Addr) (c1 : Nat) (l1 : List Int) (r : Int) (w : World) (hr0 : Kd.C (Kd.int .u32) w A0 l0.length l0) (hc0 : l0.length ≤ c0) (hr1 : Kd.C (Kd.int .u32) w A1 l1.length l1) (hc1 : l1.length ≤ c1) (h : q19z.f k l0 l1 = some r) :
  Calls Try.prog 62 #[.slice A0 l0.length c0, .slice A1 l1.length c1] w fun e w' => e = .returned (.int .i64 r) ∧ Drawn0 w w' := by
 have HR0 := Aside0.mk hr0
 have HC0 := Aside0.mk hc0
 clear hr0 hc0
 have HR1 := Aside0.mk hr1
 have HC1 := Aside0.mk hc1
 clear hr1 hc1
 have H : (q19z.l0 k l0 l1 0) = some r := h
 clear h
 have H' := Aside0.mk H
 clear H
 go_enter Try.func62, Try.ntmps62
 go_wp2
 repeat (go_quiet (fail); try go_wp2)
 go_loopg [5] k (fun kq v5 w' => ∃ (x5_1 : Int), v5 = .int .i64 x5_1 ∧ Aside0 (q19z.l0 kq l0 l1 x5_1 = some r) ∧ Aside0 (kq ≤ k) ∧ Drawn0 w w')
 case atStart => exact ⟨(0), (by first | rfl | (simp; done) | (simp [*]; done)), H', ⟨Nat.le_refl _⟩, by repeat (first | exact Drawn0.refl _ | apply Drawn0.step)⟩
 case round =>
  clear H'
  try clear c1
  try clear p2
  obtain ⟨x5_1, rfl, HA, HK1, ⟨m1, rfl⟩⟩ := hrel
  cases gk with
  | zero => exact absurd HA.out (by simp [q19z.l0])
  | succ k1 =>
   have H := HA.out
   clear HA
   simp only [q19z.l0] at H
   have HC3 := Aside0.mk H
   clear H
   go_upto_region 2 with (fail)
   repeat (go_quiet (fail); go_upto_region 2 with (fail))
   go_cut [15] (fun v15 wc => ∃ (kq : Nat) (x15_2 : Bool), v15 = .bool x15_2 ∧ Aside0 (q19z.j1 kq l0 l1 x5_1 x15_2 = some r) ∧ Aside0 (kq ≤ k1) ∧ Drawn0 w wc)
   case first =>
    have H := HC3.out
    clear HC3
    by_cases c4 : x5_1 < (l0.length : Int)
    ·
     rw [if_pos c4] at H
     have c4b0 : decide (x5_1 < (l0.length : Int)) = true := decide_eq_true c4
     clear c4
     (first | rw [c4b0] | (simp only [i64_w, i32_w, IntKind.wrap_u32]; rw [c4b0]) | skip)
     have H' := Aside0.mk H
     clear H
     go_wp2
     repeat (go_quiet (fail); try go_wp2)
     go_meet
     case rel => exact ⟨_, (decide (x5_1 < (l1.length : Int))), (by first | rfl | (simp; done) | (simp [*]; done)), H', ⟨by have := HK1.out; first | omega | exact Nat.le_refl _⟩, by repeat (first | exact Drawn0.refl _ | apply Drawn0.step)⟩
    ·
     rw [if_neg c4] at H
     have c4b0 : decide (x5_1 < (l0.length : Int)) = false := decide_eq_false c4
     clear c4
     (first | rw [c4b0] | (simp only [i64_w, i32_w, IntKind.wrap_u32]; rw [c4b0]) | skip)
     have H' := Aside0.mk H
     clear H
     go_wp2
     repeat (go_quiet (fail); try go_wp2)
     go_meet
     case rel => exact ⟨_, (false), (by first | rfl | (simp; done) | (simp [*]; done)), H', ⟨by have := HK1.out; first | omega | exact Nat.le_refl _⟩, by repeat (first | exact Drawn0.refl _ | apply Drawn0.step)⟩
   case rest =>
    clear HC3
    try clear c1
    try clear p2
    try clear c4
    try clear c4b0
    try clear p2
    obtain ⟨kq, x15_2, rfl, HA, HJ2, ⟨mc2, rfl⟩⟩ := hcut
    cases kq with
    | zero => exact absurd HA.out (by simp [q19z.j1])
    | succ kj2 =>
     have H := HA.out
     clear HA
     simp only [q19z.j1] at H
     by_cases c5 : x15_2 = true
     ·
      subst c5
      have H1 : (if 0 ≤ x5_1 then (if x5_1 < (l0.length : Int) then (if x5_1 < (l1.length : Int) then (if (rd l0 x5_1) = (rd l1 x5_1) then (q19z.l0 kj2 l0 l1 (wrap64 (x5_1 + 1))) else ((q18z.f (wrap64 (rd l0 x5_1)) (wrap64 (rd l1 x5_1))).bind fun t5 => (some t5))) else (none)) else (none)) else (none)) = some r := by rw [if_pos rfl] at H; exact H
      clear H
      have H := H1
      clear H1
      by_cases c6 : 0 ≤ x5_1
      ·
       rw [if_pos c6] at H
       have c6b0 : decide (0 ≤ x5_1) = true := decide_eq_true c6
       clear c6
       by_cases c7 : x5_1 < (l0.length : Int)
       ·
        rw [if_pos c7] at H
        have c7b0 : decide (x5_1 < (l0.length : Int)) = true := decide_eq_true c7
        clear c7
        by_cases c8 : x5_1 < (l1.length : Int)
        ·
         rw [if_pos c8] at H
         have c8b0 : decide (x5_1 < (l1.length : Int)) = true := decide_eq_true c8
         clear c8
         by_cases c9 : (rd l0 x5_1) = (rd l1 x5_1)
         ·
          rw [if_pos c9] at H
          have c9b0 : ((rd l0 x5_1) == (rd l1 x5_1)) = true := beq_iff_eq.mpr c9
          have c9b1 : ((rd l0 x5_1) != (rd l1 x5_1)) = false := bne_eq_false_iff_eq.mpr c9
          clear c9
          have H' := Aside0.mk H
          clear H
          have p1 : 0 ≤ (x5_1 : Int) := of_decide_eq_true (by first | (with_reducible assumption) | assumption)
          have q1 : x5_1 < (l0.length : Int) := of_decide_eq_true (by first | (with_reducible assumption) | assumption)
          obtain ⟨ad1, e1, hx1_0⟩ := Kd.at_int HR0.out x5_1 p1 q1
          cases e1
          replace p1 := eq_true p1
          replace q1 := eq_true q1
          have p2 : 0 ≤ (x5_1 : Int) := of_decide_eq_true (by first | (with_reducible assumption) | assumption)
          have q2 : x5_1 < (l1.length : Int) := of_decide_eq_true (by first | (with_reducible assumption) | assumption)
          obtain ⟨ad2, e2, hx2_0⟩ := Kd.at_int HR1.out x5_1 p2 q2
          cases e2
          replace p2 := eq_true p2
          replace q2 := eq_true q2
          go_wp2
          repeat (go_quiet (fail); try go_wp2)
          go_roundg kj2
          case measure => have := HK1.out; have := HJ2.out; omega
          case rel => exact ⟨(wrap64 (x5_1 + 1)), (by first | rfl | (simp; done) | (simp [*]; done)), H', ⟨by have := HK1.out; have := HJ2.out; omega⟩, by repeat (first | exact Drawn0.refl _ | apply Drawn0.step)⟩
         ·
          rw [if_neg c9] at H
          have c9b0 : ((rd l0 x5_1) == (rd l1 x5_1)) = false := beq_eq_false_iff_ne.mpr c9
          have c9b1 : ((rd l0 x5_1) != (rd l1 x5_1)) = true := bne_iff_ne.mpr c9
          replace H := Option.bind_eq_some_iff.mp H
          obtain ⟨t5, A100, H⟩ := H
          replace H : (some t5) = some r := H
          have A10 := Aside0.mk A100
          clear A100
          obtain rfl := Option.some.inj H
          have p1 : 0 ≤ (x5_1 : Int) := of_decide_eq_true (by first | (with_reducible assumption) | assumption)
          have q1 : x5_1 < (l0.length : Int) := of_decide_eq_true (by first | (with_reducible assumption) | assumption)
          obtain ⟨ad1, e1, hx1_0⟩ := Kd.at_int HR0.out x5_1 p1 q1
          cases e1
          replace p1 := eq_true p1
          replace q1 := eq_true q1
          have p2 : 0 ≤ (x5_1 : Int) := of_decide_eq_true (by first | (with_reducible assumption) | assumption)
          have q2 : x5_1 < (l1.length : Int) := of_decide_eq_true (by first | (with_reducible assumption) | assumption)
          obtain ⟨ad2, e2, hx2_0⟩ := Kd.at_int HR1.out x5_1 p2 q2
          cases e2
          replace p2 := eq_true p2
          replace q2 := eq_true q2
          have p3 : 0 ≤ (x5_1 : Int) := of_decide_eq_true (by first | (with_reducible assumption) | assumption)
          have q3 : x5_1 < (l0.length : Int) := of_decide_eq_true (by first | (with_reducible assumption) | assumption)
          obtain ⟨ad3, e3, hx3_0⟩ := Kd.at_int HR0.out x5_1 p3 q3
          obtain rfl : ad1 = ad3 := (by injection e3)
          replace p3 := eq_true p3
          replace q3 := eq_true q3
          have p4 : 0 ≤ (x5_1 : Int) := of_decide_eq_true (by first | (with_reducible assumption) | assumption)
          have q4 : x5_1 < (l1.length : Int) := of_decide_eq_true (by first | (with_reducible assumption) | assumption)
          obtain ⟨ad4, e4, hx4_0⟩ := Kd.at_int HR1.out x5_1 p4 q4
          obtain rfl : ad2 = ad4 := (by injection e4)
          replace p4 := eq_true p4
          replace q4 := eq_true q4
          go_wp2_with (first | (go_at_call 61; (with_reducible refine (q18z.calls (wrap64 (rd l0 x5_1)) (wrap64 (rd l1 x5_1)) t5 _ A10.out).mono ?_); rintro e w' ⟨rfl, ⟨nd, rfl⟩⟩; (try first | exact ⟨rfl, _, World.drewN_drewN _ _ _⟩ | exact ⟨rfl, _, Eq.trans (World.drewN_drewN _ _ _) (congrArg (World.drewN _) (Nat.add_assoc _ _ _))⟩)))
          repeat (go_quiet (first | (go_at_call 61; (with_reducible refine (q18z.calls (wrap64 (rd l0 x5_1)) (wrap64 (rd l1 x5_1)) t5 _ A10.out).mono ?_); rintro e w' ⟨rfl, ⟨nd, rfl⟩⟩; (try first | exact ⟨rfl, _, World.drewN_drewN _ _ _⟩ | exact ⟨rfl, _, Eq.trans (World.drewN_drewN _ _ _) (congrArg (World.drewN _) (Nat.add_assoc _ _ _))⟩))); try go_wp2_with (first | (go_at_call 61; (with_reducible refine (q18z.calls (wrap64 (rd l0 x5_1)) (wrap64 (rd l1 x5_1)) t5 _ A10.out).mono ?_); rintro e w' ⟨rfl, ⟨nd, rfl⟩⟩; (try first | exact ⟨rfl, _, World.drewN_drewN _ _ _⟩ | exact ⟨rfl, _, Eq.trans (World.drewN_drewN _ _ _) (congrArg (World.drewN _) (Nat.add_assoc _ _ _))⟩))))
          go_ret
          exact ⟨by first | rfl | (simp; done) | (simp [*]; done), by repeat (first | exact Drawn0.refl _ | apply Drawn0.step)⟩
        ·
         rw [if_neg c8] at H
         exact absurd H (by simp)
       ·
        rw [if_neg c7] at H
        exact absurd H (by simp)
      ·
       rw [if_neg c6] at H
       exact absurd H (by simp)
     ·
      replace c5 := Bool.eq_false_iff.mpr c5
      subst c5
      have H1 : ((q18z.f (l0.length : Int) (l1.length : Int)).bind fun t6 => (some t6)) = some r := by rw [if_neg (show ¬ (false = true) by decide)] at H; exact H
      clear H
      have H := H1
      clear H1
      replace H := Option.bind_eq_some_iff.mp H
      obtain ⟨t6, A110, H⟩ := H
      replace H : (some t6) = some r := H
      have A11 := Aside0.mk A110
      clear A110
      obtain rfl := Option.some.inj H
      go_wp2_with (first | (go_at_call 61; (with_reducible refine (q18z.calls (l0.length : Int) (l1.length : Int) t6 _ A11.out).mono ?_); rintro e w' ⟨rfl, ⟨nd, rfl⟩⟩; (try first | exact ⟨rfl, _, World.drewN_drewN _ _ _⟩ | exact ⟨rfl, _, Eq.trans (World.drewN_drewN _ _ _) (congrArg (World.drewN _) (Nat.add_assoc _ _ _))⟩)))
      repeat (go_quiet (first | (go_at_call 61; (with_reducible refine (q18z.calls (l0.length : Int) (l1.length : Int) t6 _ A11.out).mono ?_); rintro e w' ⟨rfl, ⟨nd, rfl⟩⟩; (try first | exact ⟨rfl, _, World.drewN_drewN _ _ _⟩ | exact ⟨rfl, _, Eq.trans (World.drewN_drewN _ _ _) (congrArg (World.drewN _) (Nat.add_assoc _ _ _))⟩))); try go_wp2_with (first | (go_at_call 61; (with_reducible refine (q18z.calls (l0.length : Int) (l1.length : Int) t6 _ A11.out).mono ?_); rintro e w' ⟨rfl, ⟨nd, rfl⟩⟩; (try first | exact ⟨rfl, _, World.drewN_drewN _ _ _⟩ | exact ⟨rfl, _, Eq.trans (World.drewN_drewN _ _ _) (congrArg (World.drewN _) (Nat.add_assoc _ _ _))⟩))))
      go_ret
      exact ⟨by first | rfl | (simp; done) | (simp [*]; done), by repeat (first | exact Drawn0.refl _ | apply Drawn0.step)⟩

end Go.Proofs.Ythekledcoeeheaa.P
