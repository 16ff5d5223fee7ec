/-
  Proved: for every input the law ActAll answers true, and each argument reads behind the call as it read before.
  Conditions: none beside the row's own.
-/
import Derived.Deep.Slices
import Derived.Lib.SlicesCompact
import Derived.Test.YtgelpccjdndfoaaRows
import Derived.WalkKit
import Derived.ProofKit
import Derived.OpenShut
import Derived.ShutString
import Derived.ChangeOld
import Derived.Below
import Derived.SizedLaws
import Derived.Test.YtgelpccjdndfoaaCActAll0
import Derived.Test.YtgelpccjdndfoaaCActAll1
import Derived.Test.YtgelpccjdndfoaaCActAll2
import Derived.Test.YtgelpccjdndfoaaCActAll3
import Derived.Test.YtgelpccjdndfoaaCActAll4
namespace Go.Proofs.Ytgelpccjdndfoaa.P
open Go.RowKit Go.Proofs.YtgelpccjdndfoaaW.PrintWords Go.Proofs.YtgelpccjdndfoaaW.PrintLast Go.Proofs.YtgelpccjdndfoaaW.PrintMore
attribute [local go_sem] max2_int min2_int max_two min_two max_three min_three max_four min_four
set_option linter.unusedVariables false
set_option linter.unusedSimpArgs false

/-! ### dragomanlaw12_ActAll: function 6 -/
mutual
def q27z.j0 : Nat → List (S26) → Bool → Int → Int → List Int → List Int → Int → Int → Int → Int → Option (Bool)
 | 0, _, _, _, _, _, _, _, _, _, _ => none
 | k + 1, x0, x17, x2000, x2001, x2002, x2003, x2004, x2005, x2006, x2007 => if x17 = true then (some true) else ((q2z.f x2000 x2001 x2002 x2003 x2004 x2005 x2006 x2007).bind fun bt4 => (q27z.l0 k x0 x0 (x0.length : Int) 0 x2000 x2001 x2002 x2003 x2004 x2005 x2006 x2007 bt4.1 bt4.2.1 bt4.2.2.1 bt4.2.2.2.1 bt4.2.2.2.2.1 bt4.2.2.2.2.2.1 bt4.2.2.2.2.2.2.1 bt4.2.2.2.2.2.2.2))
def q27z.l0 : Nat → List (S26) → List (S26) → Int → Int → Int → Int → List Int → List Int → Int → Int → Int → Int → Int → Int → List Int → List Int → Int → Int → Int → Int → Option (Bool)
 | 0, _, _, _, _, _, _, _, _, _, _, _, _, _, _, _, _, _, _, _, _ => none
 | k + 1, x0, x20, x21, x22, x2000, x2001, x2002, x2003, x2004, x2005, x2006, x2007, x17000, x17001, x17002, x17003, x17004, x17005, x17006, x17007 => if x22 < x21 then (if 0 ≤ x22 then (if x22 < (x20.length : Int) then (if (((rd_T26 x20 x22).f2).length : Int) > 100 then (some true) else ((q26z.f k ((rd_T26 x20 x22).f0) ((rd_T26 x20 x22).f1) ((rd_T26 x20 x22).f2) ((rd_T26 x20 x22).f3)).bind fun t19 => (if t19 = true then (some true) else ((q9z.f k ((rd_T26 x20 x22).f0) ((rd_T26 x20 x22).f1) ((rd_T26 x20 x22).f2) ((rd_T26 x20 x22).f3) x17000 x17001 x17002 x17003 x17004 x17005 x17006 x17007).bind fun bt20 => (q27z.l0 k x0 x20 x21 (wrap64 (x22 + 1)) x2000 x2001 x2002 x2003 x2004 x2005 x2006 x2007 bt20.1 bt20.2.1 bt20.2.2.1 bt20.2.2.2.1 bt20.2.2.2.2.1 bt20.2.2.2.2.2.1 bt20.2.2.2.2.2.2.1 bt20.2.2.2.2.2.2.2))))) else (none)) else (none)) else ((q13z.f k x0 x2000 x2001 x2002 x2003 x2004 x2005 x2006 x2007).bind fun bt32 => ((q21z.f k x0 x2000 x2001 x2002 x2003 x2004 x2005 x2006 x2007).bind fun bt45 => ((q12z.f k bt32.1 bt32.2.1 bt32.2.2.1 bt32.2.2.2.1 bt32.2.2.2.2.1 bt32.2.2.2.2.2.1 bt32.2.2.2.2.2.2.1 bt32.2.2.2.2.2.2.2 bt45.1 bt45.2.1 bt45.2.2.1 bt45.2.2.2.1 bt45.2.2.2.2.1 bt45.2.2.2.2.2.1 bt45.2.2.2.2.2.2.1 bt45.2.2.2.2.2.2.2).bind fun t57 => (if t57 = 0 then ((q12z.f k x17000 x17001 x17002 x17003 x17004 x17005 x17006 x17007 bt32.1 bt32.2.1 bt32.2.2.1 bt32.2.2.2.1 bt32.2.2.2.2.1 bt32.2.2.2.2.2.1 bt32.2.2.2.2.2.2.1 bt32.2.2.2.2.2.2.2).bind fun t58 => (some (t58 == 0))) else (some false)))))
end
def q27z.f (k : Nat) (l0 : List (S26)) (a1_0 : Int) (a1_1 : Int) (l1_2 : List Int) (l1_3 : List Int) (a1_4 : Int) (a1_5 : Int) (a1_6 : Int) (a1_7 : Int) : Option (Bool) := (q23z.f k).bind fun t2 => (if t2 = true then (if (l0.length : Int) > 70 then (q27z.j0 k l0 true a1_0 a1_1 l1_2 l1_3 a1_4 a1_5 a1_6 a1_7) else ((q1z.f a1_0 a1_1 l1_2 l1_3 a1_4 a1_5 a1_6 a1_7).bind fun t3 => (q27z.j0 k l0 t3 a1_0 a1_1 l1_2 l1_3 a1_4 a1_5 a1_6 a1_7))) else (some false))
theorem q27z.mono_l : ∀ k, (∀ y0 y1 y2 y3 y4 y5 y6 y7 y8 y9, LeO (q27z.j0 k y0 y1 y2 y3 y4 y5 y6 y7 y8 y9) (q27z.j0 (k + 1) y0 y1 y2 y3 y4 y5 y6 y7 y8 y9)) ∧ (∀ y0 y1 y2 y3 y4 y5 y6 y7 y8 y9 y10 y11 y12 y13 y14 y15 y16 y17 y18 y19, LeO (q27z.l0 k y0 y1 y2 y3 y4 y5 y6 y7 y8 y9 y10 y11 y12 y13 y14 y15 y16 y17 y18 y19) (q27z.l0 (k + 1) y0 y1 y2 y3 y4 y5 y6 y7 y8 y9 y10 y11 y12 y13 y14 y15 y16 y17 y18 y19))
 | 0 => ⟨fun _ _ _ _ _ _ _ _ _ _ r h => by simp [q27z.j0] at h, fun _ _ _ _ _ _ _ _ _ _ _ _ _ _ _ _ _ _ _ _ r h => by simp [q27z.l0] at h⟩
 | k + 1 => by
  obtain ⟨ih0, ih1⟩ := q27z.mono_l k
  refine ⟨?_, ?_⟩
  ·
   intro y0 y1 y2 y3 y4 y5 y6 y7 y8 y9
   unfold q27z.j0
   repeat' first
   | (with_reducible exact ih0 _ _ _ _ _ _ _ _ _ _)
   | (with_reducible exact ih1 _ _ _ _ _ _ _ _ _ _ _ _ _ _ _ _ _ _ _ _)
   | (with_reducible exact q13z.mono _ _ _ _ _ _ _ _ _ _)
   | (with_reducible exact q9z.mono _ _ _ _ _ _ _ _ _ _ _ _ _)
   | (with_reducible exact q23z.mono _)
   | (with_reducible exact q12z.mono _ _ _ _ _ _ _ _ _ _ _ _ _ _ _ _ _)
   | (with_reducible exact q21z.mono _ _ _ _ _ _ _ _ _ _)
   | (with_reducible exact q26z.mono _ _ _ _ _)
   | (with_reducible exact LeO.refl _)
   | (with_reducible exact LeO.none _)
   | (with_reducible refine LeO.ite ?_ ?_)
   | (with_reducible refine LeO.bind ?_ (fun _ => ?_))
   | exact ih0 _ _ _ _ _ _ _ _ _ _
   | exact ih1 _ _ _ _ _ _ _ _ _ _ _ _ _ _ _ _ _ _ _ _
   | exact q13z.mono _ _ _ _ _ _ _ _ _ _
   | exact q9z.mono _ _ _ _ _ _ _ _ _ _ _ _ _
   | exact q23z.mono _
   | exact q12z.mono _ _ _ _ _ _ _ _ _ _ _ _ _ _ _ _ _
   | exact q21z.mono _ _ _ _ _ _ _ _ _ _
   | exact q26z.mono _ _ _ _ _
   | exact LeO.none _
   | refine LeO.ite ?_ ?_
   | refine LeO.bind ?_ (fun _ => ?_)
  ·
   intro y0 y1 y2 y3 y4 y5 y6 y7 y8 y9 y10 y11 y12 y13 y14 y15 y16 y17 y18 y19
   unfold q27z.l0
   repeat' first
   | (with_reducible exact ih0 _ _ _ _ _ _ _ _ _ _)
   | (with_reducible exact ih1 _ _ _ _ _ _ _ _ _ _ _ _ _ _ _ _ _ _ _ _)
   | (with_reducible exact q13z.mono _ _ _ _ _ _ _ _ _ _)
   | (with_reducible exact q9z.mono _ _ _ _ _ _ _ _ _ _ _ _ _)
   | (with_reducible exact q23z.mono _)
   | (with_reducible exact q12z.mono _ _ _ _ _ _ _ _ _ _ _ _ _ _ _ _ _)
   | (with_reducible exact q21z.mono _ _ _ _ _ _ _ _ _ _)
   | (with_reducible exact q26z.mono _ _ _ _ _)
   | (with_reducible exact LeO.refl _)
   | (with_reducible exact LeO.none _)
   | (with_reducible refine LeO.ite ?_ ?_)
   | (with_reducible refine LeO.bind ?_ (fun _ => ?_))
   | exact ih0 _ _ _ _ _ _ _ _ _ _
   | exact ih1 _ _ _ _ _ _ _ _ _ _ _ _ _ _ _ _ _ _ _ _
   | exact q13z.mono _ _ _ _ _ _ _ _ _ _
   | exact q9z.mono _ _ _ _ _ _ _ _ _ _ _ _ _
   | exact q23z.mono _
   | exact q12z.mono _ _ _ _ _ _ _ _ _ _ _ _ _ _ _ _ _
   | exact q21z.mono _ _ _ _ _ _ _ _ _ _
   | exact q26z.mono _ _ _ _ _
   | exact LeO.none _
   | refine LeO.ite ?_ ?_
   | refine LeO.bind ?_ (fun _ => ?_)
theorem q27z.mono : ∀ a0 a1 a2 a3 a4 a5 a6 a7 a8 k, LeO (q27z.f k a0 a1 a2 a3 a4 a5 a6 a7 a8) (q27z.f (k + 1) a0 a1 a2 a3 a4 a5 a6 a7 a8) := by
 intro a0 a1 a2 a3 a4 a5 a6 a7 a8 k
 obtain ⟨ih0, ih1⟩ := q27z.mono_l k
 unfold q27z.f
 repeat' first
   | (with_reducible exact ih0 _ _ _ _ _ _ _ _ _ _)
   | (with_reducible exact ih1 _ _ _ _ _ _ _ _ _ _ _ _ _ _ _ _ _ _ _ _)
   | (with_reducible exact q13z.mono _ _ _ _ _ _ _ _ _ _)
   | (with_reducible exact q9z.mono _ _ _ _ _ _ _ _ _ _ _ _ _)
   | (with_reducible exact q23z.mono _)
   | (with_reducible exact q12z.mono _ _ _ _ _ _ _ _ _ _ _ _ _ _ _ _ _)
   | (with_reducible exact q21z.mono _ _ _ _ _ _ _ _ _ _)
   | (with_reducible exact q26z.mono _ _ _ _ _)
   | (with_reducible exact LeO.refl _)
   | (with_reducible exact LeO.none _)
   | (with_reducible refine LeO.ite ?_ ?_)
   | (with_reducible refine LeO.bind ?_ (fun _ => ?_))
   | exact ih0 _ _ _ _ _ _ _ _ _ _
   | exact ih1 _ _ _ _ _ _ _ _ _ _ _ _ _ _ _ _ _ _ _ _
   | exact q13z.mono _ _ _ _ _ _ _ _ _ _
   | exact q9z.mono _ _ _ _ _ _ _ _ _ _ _ _ _
   | exact q23z.mono _
   | exact q12z.mono _ _ _ _ _ _ _ _ _ _ _ _ _ _ _ _ _
   | exact q21z.mono _ _ _ _ _ _ _ _ _ _
   | exact q26z.mono _ _ _ _ _
   | exact LeO.none _
   | refine LeO.ite ?_ ?_
   | refine LeO.bind ?_ (fun _ => ?_)
def q27z.T14 : Bool × List (List Nat × List Nat) := (true, [([], []), ([], []), ([], []), ([1, 2], [1, 2]), ([0, 3, 3], [0, 3]), ([4], [4]), ([5, 4], [5]), ([6], [6]), ([6], [6]), ([7, 8, 6, 6], [6, 7, 8]), ([9, 6], [6, 9]), ([6, 10], [6, 10]), ([11, 9, 0, 1, 2, 3, 4, 5, 6, 7, 8, 9, 10, 11], [11])])
def q27z.B14 : List Nat := [0, 0, 0, 6, 15, 31, 63, 127, 127, 511, 1023, 2047, 4095]
theorem q27z.tab14 : rtab .any (opsOf Try.f6 14) = q27z.T14 := by kernel_rfl
theorem q27z.bits14 : waitsOk q27z.T14.2 q27z.B14 = true := by kernel_rfl
set_option maxHeartbeats 8000000 in
set_option maxRecDepth 100000 in
theorem q27z.calls (k : Nat) (A0 : Option Addr) (c0 : Nat) (l0 : List (S26)) (a1_0 : Int) (a1_1 : Int) (A1_2 : Option Addr) (c1_2 : Nat) (l1_2 : List Int) (A1_3 : Option Addr) (c1_3 : Nat) (l1_3 : List Int) (a1_4 : Int) (a1_5 : Int) (a1_6 : Int) (a1_7 : Int) (r : Bool) (w : World) (hr0 : Kd.C k26 w A0 l0.length l0) (hc0 : l0.length ≤ c0) (hr1_2 : Kd.C (Kd.int .u32) w A1_2 l1_2.length l1_2) (hc1_2 : l1_2.length ≤ c1_2) (hr1_3 : Kd.C (Kd.int .u32) w A1_3 l1_3.length l1_3) (hc1_3 : l1_3.length ≤ c1_3) (h : q27z.f k l0 a1_0 a1_1 l1_2 l1_3 a1_4 a1_5 a1_6 a1_7 = some r) :
  Calls Try.prog 6 #[.slice A0 l0.length c0, .agg #[.int .u32 a1_0, .int .i64 a1_1, .slice A1_2 l1_2.length c1_2, .slice A1_3 l1_3.length c1_3, .int .u32 a1_4, .int .u32 a1_5, .int .i64 a1_6, .int .u32 a1_7]] w fun e w' => e = .returned (.bool r) ∧ Below w.heap.size w w' := by
 have hu30 := Try.underlying30
 have hu26 := Try.underlying26
 have HR0 := Aside0.mk hr0
 have HC0 := Aside0.mk hc0
 clear hr0 hc0
 have HR1_2 := Aside0.mk hr1_2
 have HC1_2 := Aside0.mk hc1_2
 clear hr1_2 hc1_2
 have HR1_3 := Aside0.mk hr1_3
 have HC1_3 := Aside0.mk hc1_3
 clear hr1_3 hc1_3
 have HB := Aside0.mk (Below.refl w.heap.size w)
 have H : ((q23z.f k).bind fun t2 => (if t2 = true then (if (l0.length : Int) > 70 then (q27z.j0 k l0 true a1_0 a1_1 l1_2 l1_3 a1_4 a1_5 a1_6 a1_7) else ((q1z.f a1_0 a1_1 l1_2 l1_3 a1_4 a1_5 a1_6 a1_7).bind fun t3 => (q27z.j0 k l0 t3 a1_0 a1_1 l1_2 l1_3 a1_4 a1_5 a1_6 a1_7))) else (some false))) = some r := h
 clear h
 replace H := Option.bind_eq_some_iff.mp H
 obtain ⟨t2, A30, H⟩ := H
 replace H : (if t2 = true then (if (l0.length : Int) > 70 then (q27z.j0 k l0 true a1_0 a1_1 l1_2 l1_3 a1_4 a1_5 a1_6 a1_7) else ((q1z.f a1_0 a1_1 l1_2 l1_3 a1_4 a1_5 a1_6 a1_7).bind fun t3 => (q27z.j0 k l0 t3 a1_0 a1_1 l1_2 l1_3 a1_4 a1_5 a1_6 a1_7))) else (some false)) = some r := H
 have A3 := Aside0.mk A30
 clear A30
 by_cases c4 : t2 = true
 ·
  subst c4
  have H1 : (if (l0.length : Int) > 70 then (q27z.j0 k l0 true a1_0 a1_1 l1_2 l1_3 a1_4 a1_5 a1_6 a1_7) else ((q1z.f a1_0 a1_1 l1_2 l1_3 a1_4 a1_5 a1_6 a1_7).bind fun t3 => (q27z.j0 k l0 t3 a1_0 a1_1 l1_2 l1_3 a1_4 a1_5 a1_6 a1_7))) = some r := by rw [if_pos rfl] at H; exact H
  clear H
  have H := H1
  clear H1
  have HC5 := Aside0.mk H
  clear H
  go_enter Try.func6, Try.ntmps6
  go_upto_region 3 with (first | ((with_reducible refine gate_dst (N := 3) rfl ?_); refine box_event ?hg (N := 3) ?hd (cs := #[.int .u32 a1_0, .int .i64 a1_1, .slice A1_2 l1_2.length c1_2, .slice A1_3 l1_3.length c1_3, .int .u32 a1_4, .int .u32 a1_5, .int .i64 a1_6, .int .u32 a1_7]) (t := 30) ?hr ?_; (case hd => rfl); (case hg => rfl); (case hr => first | (go_simp; done) | (go_simp; rfl)); intro gb1 hg w6 hbox hb; have n0_ := hbS HB hb; have n1_ := Aside0.mk (hbox); have n2_ := Aside0.mk ((by rw [hg]; exact (below_size (hbW HB)) : w.heap.size ≤ gb1)); have n3_ := Aside0.mk ((by rw [hg]; exact (below_size (hbW HB)) : w.heap.size ≤ gb1)); clear HB; have HB := n0_; have BK1 := n1_; have GW1 := n2_; have GE1 := n3_; clear n0_ n1_ n2_ n3_; clear hb hbox hg) | ((with_reducible refine gate_callee (f := 8) rfl ?_); refine goesL_ (some 9) rfl rfl Try.func8 (by kernel_rfl) rfl #[] rfl (by (try simp only [List.map_toArray, List.map_cons, List.map_nil]); first | done | rfl | (simp only [List.length_drop, List.length_take]; rfl)) ?_; (with_reducible refine (q23z.calls k  true _ A3.out).mono ?_); rintro e w7 ⟨rfl, hb⟩; refine ⟨_, rfl, ?_⟩; have n0_ := bkB BK1 hb; have n1_ := hbS HB hb; clear BK1; clear HB; have BK1 := n0_; have HB := n1_; clear n0_ n1_; (try clear hb); (try clear hb2); (try clear hk); (try clear hi)))
  (try simp only [Act.put, List.setIfInBounds_toArray, List.set_cons_zero, List.set_cons_succ])
  go_cut [17] (fun v17 wc => ∃ (kq : Nat) (x17_4 : Bool), v17 = .bool x17_4 ∧ Aside0 (q27z.j0 kq l0 x17_4 a1_0 a1_1 l1_2 l1_3 a1_4 a1_5 a1_6 a1_7 = some r) ∧ Aside0 (kq ≤ k) ∧ Aside0 (wc.heap[gb1]? = some (.cells #[.int .u32 a1_0, .int .i64 a1_1, (.slice A1_2 l1_2.length c1_2), (.slice A1_3 l1_3.length c1_3), .int .u32 a1_4, .int .u32 a1_5, .int .i64 a1_6, .int .u32 a1_7] 30 (0, 0))) ∧ Aside0 (Below w.heap.size w wc))
  case first =>
   have H := HC5.out
   clear HC5
   by_cases c8 : (l0.length : Int) > 70
   ·
    rw [if_pos c8] at H
    have c8b0 : decide (70 < (l0.length : Int)) = true := decide_eq_true c8
    have c8b1 : decide (70 < l0.length) = true := decide_eq_true (by omega)
    clear c8
    (first | rw [c8b0] | (simp only [i64_w, i32_w, IntKind.wrap_u32]; rw [c8b0]) | skip)
    have H' := Aside0.mk H
    clear H
    go_wp2
    go_meet
    case rel => exact ⟨_, (true), (by first | rfl | (simp; done) | (simp [*]; done)), H', ⟨by first | omega | exact Nat.le_refl _⟩, ⟨by (with_reducible repeat (first | refine blk_drewN ?_ _ | refine blk_drew ?_ | refine blk_alloc ?_ _)); exact BK1.out⟩, ⟨hbW HB⟩⟩
   ·
    rw [if_neg c8] at H
    have c8b0 : decide (70 < (l0.length : Int)) = false := decide_eq_false c8
    have c8b1 : decide (70 < l0.length) = false := decide_eq_false (by omega)
    clear c8
    (first | rw [c8b0] | (simp only [i64_w, i32_w, IntKind.wrap_u32]; rw [c8b0]) | skip)
    replace H := Option.bind_eq_some_iff.mp H
    obtain ⟨t3, A90, H⟩ := H
    replace H : (q27z.j0 k l0 t3 a1_0 a1_1 l1_2 l1_3 a1_4 a1_5 a1_6 a1_7) = some r := H
    have A9 := Aside0.mk A90
    clear A90
    have H' := Aside0.mk H
    clear H
    have hcz10_0 : w7.cell? ⟨gb1, 0, none⟩ = some (.int .u32 a1_0) := (blk_cell BK1.out 0).trans rfl
    have hcz10_1 : w7.cell? ⟨gb1, 1, none⟩ = some (.int .i64 a1_1) := (blk_cell BK1.out 1).trans rfl
    have hcz10_2 : w7.cell? ⟨gb1, 2, none⟩ = some (.slice A1_2 l1_2.length c1_2) := (blk_cell BK1.out 2).trans rfl
    have hcz10_3 : w7.cell? ⟨gb1, 3, none⟩ = some (.slice A1_3 l1_3.length c1_3) := (blk_cell BK1.out 3).trans rfl
    have hcz10_4 : w7.cell? ⟨gb1, 4, none⟩ = some (.int .u32 a1_4) := (blk_cell BK1.out 4).trans rfl
    have hcz10_5 : w7.cell? ⟨gb1, 5, none⟩ = some (.int .u32 a1_5) := (blk_cell BK1.out 5).trans rfl
    have hcz10_6 : w7.cell? ⟨gb1, 6, none⟩ = some (.int .i64 a1_6) := (blk_cell BK1.out 6).trans rfl
    have hcz10_7 : w7.cell? ⟨gb1, 7, none⟩ = some (.int .u32 a1_7) := (blk_cell BK1.out 7).trans rfl
    have hfz10_0 := blk_frozen BK1.out 0
    have hfz10_1 := blk_frozen BK1.out 1
    have hfz10_2 := blk_frozen BK1.out 2
    have hfz10_3 := blk_frozen BK1.out 3
    have hfz10_4 := blk_frozen BK1.out 4
    have hfz10_5 := blk_frozen BK1.out 5
    have hfz10_6 := blk_frozen BK1.out 6
    have hfz10_7 := blk_frozen BK1.out 7
    go_wp2_with (first | (go_at_call 10; (with_reducible refine (q1z.calls a1_0 a1_1 _ _ l1_2 _ _ l1_3 a1_4 a1_5 a1_6 a1_7 t3 _ ?side1 ?side2 ?side3 ?side4 A9.out).mono ?_); (case side1 => repeat (first | exact (Kd.C_below HR1_2.out HB.out) | (with_reducible refine Kd.C_alloc ?_ _) | (with_reducible refine Kd.C_drewN ?_ _) | (with_reducible refine Kd.C_drew ?_))); (case side2 => exact HC1_2.out); (case side3 => repeat (first | exact (Kd.C_below HR1_3.out HB.out) | (with_reducible refine Kd.C_alloc ?_ _) | (with_reducible refine Kd.C_drewN ?_ _) | (with_reducible refine Kd.C_drew ?_))); (case side4 => exact HC1_3.out); rintro e w11 ⟨rfl, hb⟩; have n0_ := bkB BK1 hb; have n1_ := hbS HB hb; clear BK1; clear HB; have BK1 := n0_; have HB := n1_; clear n0_ n1_; (try clear hb); (try clear hb2); (try clear hk); (try clear hi)))
    go_meet
    case rel => exact ⟨_, (t3), (by first | rfl | (simp; done) | (simp [*]; done)), H', ⟨by first | omega | exact Nat.le_refl _⟩, ⟨by (with_reducible repeat (first | refine blk_drewN ?_ _ | refine blk_drew ?_ | refine blk_alloc ?_ _)); exact BK1.out⟩, ⟨hbW HB⟩⟩
  case rest =>
   clear HC5
   try clear c1
   try clear p2
   try clear c4
   try clear c6
   try clear c8
   try clear c8b0
   try clear c8b1
   try clear hcz10_0
   try clear hcz10_1
   try clear hcz10_2
   try clear hcz10_3
   try clear hcz10_4
   try clear hcz10_5
   try clear hcz10_6
   try clear hcz10_7
   try clear hfz10_0
   try clear hfz10_1
   try clear hfz10_2
   try clear hfz10_3
   try clear hfz10_4
   try clear hfz10_5
   try clear hfz10_6
   try clear hfz10_7
   obtain ⟨kq, x17_4, rfl, HA, HJ4, BK1, HB⟩ := hcut
   cases kq with
   | zero => exact absurd HA.out (by simp [q27z.j0])
   | succ kj4 =>
    have H := HA.out
    clear HA
    simp only [q27z.j0] at H
    by_cases c12 : x17_4 = true
    ·
     subst c12
     have H1 : (some true) = some r := by rw [if_pos rfl] at H; exact H
     clear H
     have H := H1
     clear H1
     obtain rfl := Option.some.inj H
     go_wp2
     go_ret
     exact ⟨by first | rfl | (simp [errW_none, errW_some] <;> rfl) | (simp [*, errW_none, errW_some] <;> rfl), hbW HB⟩
    ·
     replace c12 := Bool.eq_false_iff.mpr c12
     subst c12
     have H1 : ((q2z.f a1_0 a1_1 l1_2 l1_3 a1_4 a1_5 a1_6 a1_7).bind fun bt4 => (q27z.l0 kj4 l0 l0 (l0.length : Int) 0 a1_0 a1_1 l1_2 l1_3 a1_4 a1_5 a1_6 a1_7 bt4.1 bt4.2.1 bt4.2.2.1 bt4.2.2.2.1 bt4.2.2.2.2.1 bt4.2.2.2.2.2.1 bt4.2.2.2.2.2.2.1 bt4.2.2.2.2.2.2.2)) = some r := by rw [if_neg (show ¬ (false = true) by decide)] at H; exact H
     clear H
     have H := H1
     clear H1
     replace H := Option.bind_eq_some_iff.mp H
     obtain ⟨⟨t4, t5, t6, t9, t12, t13, t14, t15⟩, A130, H⟩ := H
     replace H : (q27z.l0 kj4 l0 l0 (l0.length : Int) 0 a1_0 a1_1 l1_2 l1_3 a1_4 a1_5 a1_6 a1_7 t4 t5 t6 t9 t12 t13 t14 t15) = some r := H
     have A13 := Aside0.mk A130
     clear A130
     have H' := Aside0.mk H
     clear H
     have hcz14_0 : wc.cell? ⟨gb1, 0, none⟩ = some (.int .u32 a1_0) := (blk_cell BK1.out 0).trans rfl
     have hcz14_1 : wc.cell? ⟨gb1, 1, none⟩ = some (.int .i64 a1_1) := (blk_cell BK1.out 1).trans rfl
     have hcz14_2 : wc.cell? ⟨gb1, 2, none⟩ = some (.slice A1_2 l1_2.length c1_2) := (blk_cell BK1.out 2).trans rfl
     have hcz14_3 : wc.cell? ⟨gb1, 3, none⟩ = some (.slice A1_3 l1_3.length c1_3) := (blk_cell BK1.out 3).trans rfl
     have hcz14_4 : wc.cell? ⟨gb1, 4, none⟩ = some (.int .u32 a1_4) := (blk_cell BK1.out 4).trans rfl
     have hcz14_5 : wc.cell? ⟨gb1, 5, none⟩ = some (.int .u32 a1_5) := (blk_cell BK1.out 5).trans rfl
     have hcz14_6 : wc.cell? ⟨gb1, 6, none⟩ = some (.int .i64 a1_6) := (blk_cell BK1.out 6).trans rfl
     have hcz14_7 : wc.cell? ⟨gb1, 7, none⟩ = some (.int .u32 a1_7) := (blk_cell BK1.out 7).trans rfl
     have hfz14_0 := blk_frozen BK1.out 0
     have hfz14_1 := blk_frozen BK1.out 1
     have hfz14_2 := blk_frozen BK1.out 2
     have hfz14_3 := blk_frozen BK1.out 3
     have hfz14_4 := blk_frozen BK1.out 4
     have hfz14_5 := blk_frozen BK1.out 5
     have hfz14_6 := blk_frozen BK1.out 6
     have hfz14_7 := blk_frozen BK1.out 7
     go_wp2_with (first | ((with_reducible refine gate_callee (f := 12) rfl ?_); refine goesL_ (some 19) rfl rfl Try.func12 (by kernel_rfl) rfl #[.agg #[.int .u32 a1_0, .int .i64 a1_1, .slice A1_2 l1_2.length c1_2, .slice A1_3 l1_3.length c1_3, .int .u32 a1_4, .int .u32 a1_5, .int .i64 a1_6, .int .u32 a1_7]] rfl (by (try simp only [List.map_toArray, List.map_cons, List.map_nil]); first | done | rfl | (simp only [List.length_drop, List.length_take]; rfl)) ?_; (with_reducible refine (q2z.calls a1_0 a1_1 _ _ l1_2 _ _ l1_3 a1_4 a1_5 a1_6 a1_7 t4 t5 t6 t9 t12 t13 t14 t15 _ ?side1 ?side2 ?side3 ?side4 A13.out).mono ?_); (case side1 => repeat (first | exact (Kd.C_below HR1_2.out HB.out) | (with_reducible refine Kd.C_alloc ?_ _) | (with_reducible refine Kd.C_drewN ?_ _) | (with_reducible refine Kd.C_drew ?_))); (case side2 => exact HC1_2.out); (case side3 => repeat (first | exact (Kd.C_below HR1_3.out HB.out) | (with_reducible refine Kd.C_alloc ?_ _) | (with_reducible refine Kd.C_drewN ?_ _) | (with_reducible refine Kd.C_drew ?_))); (case side4 => exact HC1_3.out); rintro e w15 ⟨v7, v10, rfl, ho0, ho1, hb⟩; refine ⟨_, rfl, ?_⟩; have n0_ := Aside0.mk (Kd.R_lower ho0 (below_size (hbW HB))); have n1_ := Aside0.mk (Kd.R_lower ho1 (below_size (hbW HB))); have n2_ := bkB BK1 hb; have n3_ := hbS HB hb; clear BK1; clear HB; have HO8 := n0_; have HO11 := n1_; have BK1 := n2_; have HB := n3_; clear n0_ n1_ n2_ n3_; (try clear hb); (try clear hb2); (try clear hk); (try clear hi); (try clear ho0); (try clear ho1)) | ((with_reducible refine gate_dst (N := 5) rfl ?_); refine box_event ?hg (N := 5) ?hd (cs := #[.int .u32 0, .int .i64 0, .slice none 0 0, .slice none 0 0, .int .u32 0, .int .u32 0, .int .i64 0, .int .u32 0]) (t := 30) ?hr ?_; (case hd => rfl); (case hg => rfl); (case hr => first | (go_simp; done) | (go_simp; rfl)); intro gb16 hg w16 hbox hb; have n0_ := Aside0.mk (Kd.R_below (rW HO8) hb); have n1_ := Aside0.mk (Kd.R_below (rW HO11) hb); have n2_ := bkB BK1 hb; have n3_ := hbS HB hb; have n4_ := Aside0.mk (hbox); have n5_ := Aside0.mk ((by rw [hg]; exact (below_size (hbW HB)) : w.heap.size ≤ gb16)); have n6_ := Aside0.mk ((by rw [hg]; exact (below_size (hbW HB)) : w.heap.size ≤ gb16)); have n7_ := Aside0.mk ((by rw [hg]; exact Nat.ne_of_lt (blk_lt (bkW BK1)) : gb1 ≠ gb16)); have n8_ := Aside0.mk ((by rw [hg]; exact Nat.ne_of_gt (blk_lt (bkW BK1)) : gb16 ≠ gb1)); clear HO8; clear HO11; clear BK1; clear HB; have HO8 := n0_; have HO11 := n1_; have BK1 := n2_; have HB := n3_; have BK16 := n4_; have GW16 := n5_; have GE16 := n6_; have NB1_16 := n7_; have NB16_1 := n8_; clear n0_ n1_ n2_ n3_ n4_ n5_ n6_ n7_ n8_; clear hb hbox hg; have hnb17 := NB16_1.out; have hnc17 := NB1_16.out; have hcz18_0 : w16.cell? ⟨gb16, 0, none⟩ = some (.int .u32 0) := (blk_cell BK16.out 0).trans rfl; have hcz18_1 : w16.cell? ⟨gb16, 1, none⟩ = some (.int .i64 0) := (blk_cell BK16.out 1).trans rfl; have hcz18_2 : w16.cell? ⟨gb16, 2, none⟩ = some (.slice none 0 0) := (blk_cell BK16.out 2).trans rfl; have hcz18_3 : w16.cell? ⟨gb16, 3, none⟩ = some (.slice none 0 0) := (blk_cell BK16.out 3).trans rfl; have hcz18_4 : w16.cell? ⟨gb16, 4, none⟩ = some (.int .u32 0) := (blk_cell BK16.out 4).trans rfl; have hcz18_5 : w16.cell? ⟨gb16, 5, none⟩ = some (.int .u32 0) := (blk_cell BK16.out 5).trans rfl; have hcz18_6 : w16.cell? ⟨gb16, 6, none⟩ = some (.int .i64 0) := (blk_cell BK16.out 6).trans rfl; have hcz18_7 : w16.cell? ⟨gb16, 7, none⟩ = some (.int .u32 0) := (blk_cell BK16.out 7).trans rfl; have hfz18_0 := blk_frozen BK16.out 0; have hfz18_1 := blk_frozen BK16.out 1; have hfz18_2 := blk_frozen BK16.out 2; have hfz18_3 := blk_frozen BK16.out 3; have hfz18_4 := blk_frozen BK16.out 4; have hfz18_5 := blk_frozen BK16.out 5; have hfz18_6 := blk_frozen BK16.out 6; have hfz18_7 := blk_frozen BK16.out 7; obtain ⟨Ao19, co19, eo19⟩ := Kd.R_slice HO8.out; subst eo19; obtain ⟨Ao20, co20, eo20⟩ := Kd.R_slice HO11.out; subst eo20))
     go_loopg [22] kj4 (fun kq v22 w' => ∃ (x22_2 : Int) (x17000_2 : Int) (x17001_2 : Int) (x17002_2 : List Int) (x17003_2 : List Int) (x17004_2 : Int) (x17005_2 : Int) (x17006_2 : Int) (x17007_2 : Int) (u17002 : Value) (u17003 : Value), v22 = .int .i64 x22_2 ∧ Aside0 (q27z.l0 kq l0 l0 (l0.length : Int) x22_2 a1_0 a1_1 l1_2 l1_3 a1_4 a1_5 a1_6 a1_7 x17000_2 x17001_2 x17002_2 x17003_2 x17004_2 x17005_2 x17006_2 x17007_2 = some r) ∧ Aside0 (kq ≤ kj4) ∧ Aside0 (Kd.R (Kd.int .u32) 22 w' w.heap.size (fun k_ => some k_ ≠ (u17003 : Value).ownBlock) u17002 x17002_2) ∧ Aside0 (Kd.R (Kd.int .u32) 22 w' w.heap.size (fun k_ => some k_ ≠ (u17002 : Value).ownBlock) u17003 x17003_2) ∧ Aside0 (w'.heap[gb1]? = some (.cells #[.int .u32 a1_0, .int .i64 a1_1, (.slice A1_2 l1_2.length c1_2), (.slice A1_3 l1_3.length c1_3), .int .u32 a1_4, .int .u32 a1_5, .int .i64 a1_6, .int .u32 a1_7] 30 (0, 0))) ∧ Aside0 (w'.heap[gb16]? = some (.cells #[.int .u32 x17000_2, .int .i64 x17001_2, u17002, u17003, .int .u32 x17004_2, .int .u32 x17005_2, .int .i64 x17006_2, .int .u32 x17007_2] 30 (0, 0))) ∧ Aside0 (Below w.heap.size w w'))
     case atStart => exact ⟨(0), (t4), (t5), (t6), (t9), (t12), (t13), (t14), (t15), (.slice Ao19 t6.length co19), (.slice Ao20 t9.length co20), (by first | rfl | (simp; done) | (simp [*]; done)), H', ⟨Nat.le_refl _⟩, ⟨by (with_reducible repeat (first | apply Kd.R_alloc | apply Kd.R_drewN | apply Kd.R_drew)); exact Kd.R_mono (Kd.R_far (p := ⟨gb16, 7, none⟩) (Kd.R_far (p := ⟨gb16, 6, none⟩) (Kd.R_far (p := ⟨gb16, 5, none⟩) (Kd.R_far (p := ⟨gb16, 4, none⟩) (Kd.R_far (p := ⟨gb16, 3, none⟩) (Kd.R_far (p := ⟨gb16, 2, none⟩) (Kd.R_far (p := ⟨gb16, 1, none⟩) (Kd.R_far (p := ⟨gb16, 0, none⟩) (Kd.R_types HO8.out BK16.out (by decide)) (fun _ hk => hk.2) (.int .u32 t4)) (fun _ hk => hk.2) (.int .i64 t5)) (fun _ hk => hk.2) (.slice Ao19 t6.length co19)) (fun _ hk => hk.2) (.slice Ao20 t9.length co20)) (fun _ hk => hk.2) (.int .u32 t12)) (fun _ hk => hk.2) (.int .u32 t13)) (fun _ hk => hk.2) (.int .i64 t14)) (fun _ hk => hk.2) (.int .u32 t15)) (fun _ hk => hk.1)⟩, ⟨by (with_reducible repeat (first | apply Kd.R_alloc | apply Kd.R_drewN | apply Kd.R_drew)); exact Kd.R_mono (Kd.R_far (p := ⟨gb16, 7, none⟩) (Kd.R_far (p := ⟨gb16, 6, none⟩) (Kd.R_far (p := ⟨gb16, 5, none⟩) (Kd.R_far (p := ⟨gb16, 4, none⟩) (Kd.R_far (p := ⟨gb16, 3, none⟩) (Kd.R_far (p := ⟨gb16, 2, none⟩) (Kd.R_far (p := ⟨gb16, 1, none⟩) (Kd.R_far (p := ⟨gb16, 0, none⟩) (Kd.R_types HO11.out BK16.out (by decide)) (fun _ hk => hk.2) (.int .u32 t4)) (fun _ hk => hk.2) (.int .i64 t5)) (fun _ hk => hk.2) (.slice Ao19 t6.length co19)) (fun _ hk => hk.2) (.slice Ao20 t9.length co20)) (fun _ hk => hk.2) (.int .u32 t12)) (fun _ hk => hk.2) (.int .u32 t13)) (fun _ hk => hk.2) (.int .i64 t14)) (fun _ hk => hk.2) (.int .u32 t15)) (fun _ hk => hk.1)⟩, ⟨by (with_reducible repeat (first | refine blk_drewN ?_ _ | refine blk_drew ?_ | refine blk_alloc ?_ _)); refine blk_far ?_ NB1_16.out _; (with_reducible repeat (first | refine blk_drewN ?_ _ | refine blk_drew ?_ | refine blk_alloc ?_ _)); refine blk_far ?_ NB1_16.out _; (with_reducible repeat (first | refine blk_drewN ?_ _ | refine blk_drew ?_ | refine blk_alloc ?_ _)); refine blk_far ?_ NB1_16.out _; (with_reducible repeat (first | refine blk_drewN ?_ _ | refine blk_drew ?_ | refine blk_alloc ?_ _)); refine blk_far ?_ NB1_16.out _; (with_reducible repeat (first | refine blk_drewN ?_ _ | refine blk_drew ?_ | refine blk_alloc ?_ _)); refine blk_far ?_ NB1_16.out _; (with_reducible repeat (first | refine blk_drewN ?_ _ | refine blk_drew ?_ | refine blk_alloc ?_ _)); refine blk_far ?_ NB1_16.out _; (with_reducible repeat (first | refine blk_drewN ?_ _ | refine blk_drew ?_ | refine blk_alloc ?_ _)); refine blk_far ?_ NB1_16.out _; (with_reducible repeat (first | refine blk_drewN ?_ _ | refine blk_drew ?_ | refine blk_alloc ?_ _)); refine blk_far ?_ NB1_16.out _; (with_reducible repeat (first | refine blk_drewN ?_ _ | refine blk_drew ?_ | refine blk_alloc ?_ _)); exact BK1.out⟩, ⟨by (with_reducible repeat (first | refine blk_drewN ?_ _ | refine blk_drew ?_ | refine blk_alloc ?_ _)); refine blk_put (cs := #[.int .u32 t4, .int .i64 t5, .slice Ao19 t6.length co19, .slice Ao20 t9.length co20, .int .u32 t12, .int .u32 t13, .int .i64 t14, .int .u32 0]) ?_ 7 _ rfl; (with_reducible repeat (first | refine blk_drewN ?_ _ | refine blk_drew ?_ | refine blk_alloc ?_ _)); refine blk_put (cs := #[.int .u32 t4, .int .i64 t5, .slice Ao19 t6.length co19, .slice Ao20 t9.length co20, .int .u32 t12, .int .u32 t13, .int .i64 0, .int .u32 0]) ?_ 6 _ rfl; (with_reducible repeat (first | refine blk_drewN ?_ _ | refine blk_drew ?_ | refine blk_alloc ?_ _)); refine blk_put (cs := #[.int .u32 t4, .int .i64 t5, .slice Ao19 t6.length co19, .slice Ao20 t9.length co20, .int .u32 t12, .int .u32 0, .int .i64 0, .int .u32 0]) ?_ 5 _ rfl; (with_reducible repeat (first | refine blk_drewN ?_ _ | refine blk_drew ?_ | refine blk_alloc ?_ _)); refine blk_put (cs := #[.int .u32 t4, .int .i64 t5, .slice Ao19 t6.length co19, .slice Ao20 t9.length co20, .int .u32 0, .int .u32 0, .int .i64 0, .int .u32 0]) ?_ 4 _ rfl; (with_reducible repeat (first | refine blk_drewN ?_ _ | refine blk_drew ?_ | refine blk_alloc ?_ _)); refine blk_put (cs := #[.int .u32 t4, .int .i64 t5, .slice Ao19 t6.length co19, .slice none 0 0, .int .u32 0, .int .u32 0, .int .i64 0, .int .u32 0]) ?_ 3 _ rfl; (with_reducible repeat (first | refine blk_drewN ?_ _ | refine blk_drew ?_ | refine blk_alloc ?_ _)); refine blk_put (cs := #[.int .u32 t4, .int .i64 t5, .slice none 0 0, .slice none 0 0, .int .u32 0, .int .u32 0, .int .i64 0, .int .u32 0]) ?_ 2 _ rfl; (with_reducible repeat (first | refine blk_drewN ?_ _ | refine blk_drew ?_ | refine blk_alloc ?_ _)); refine blk_put (cs := #[.int .u32 t4, .int .i64 0, .slice none 0 0, .slice none 0 0, .int .u32 0, .int .u32 0, .int .i64 0, .int .u32 0]) ?_ 1 _ rfl; (with_reducible repeat (first | refine blk_drewN ?_ _ | refine blk_drew ?_ | refine blk_alloc ?_ _)); refine blk_put (cs := #[.int .u32 0, .int .i64 0, .slice none 0 0, .slice none 0 0, .int .u32 0, .int .u32 0, .int .i64 0, .int .u32 0]) ?_ 0 _ rfl; (with_reducible repeat (first | refine blk_drewN ?_ _ | refine blk_drew ?_ | refine blk_alloc ?_ _)); exact BK16.out⟩, ⟨hbW HB⟩⟩
     case round =>
      clear H'
      try clear c1
      try clear p2
      try clear c4
      try clear c6
      try clear c8
      try clear c8b0
      try clear c8b1
      try clear c12
      try clear c17
      try clear hcz10_0
      try clear hcz10_1
      try clear hcz10_2
      try clear hcz10_3
      try clear hcz10_4
      try clear hcz10_5
      try clear hcz10_6
      try clear hcz10_7
      try clear hcz14_0
      try clear hcz14_1
      try clear hcz14_2
      try clear hcz14_3
      try clear hcz14_4
      try clear hcz14_5
      try clear hcz14_6
      try clear hcz14_7
      try clear hcz18_0
      try clear hcz18_1
      try clear hcz18_2
      try clear hcz18_3
      try clear hcz18_4
      try clear hcz18_5
      try clear hcz18_6
      try clear hcz18_7
      try clear hfz10_0
      try clear hfz10_1
      try clear hfz10_2
      try clear hfz10_3
      try clear hfz10_4
      try clear hfz10_5
      try clear hfz10_6
      try clear hfz10_7
      try clear hfz14_0
      try clear hfz14_1
      try clear hfz14_2
      try clear hfz14_3
      try clear hfz14_4
      try clear hfz14_5
      try clear hfz14_6
      try clear hfz14_7
      try clear hfz18_0
      try clear hfz18_1
      try clear hfz18_2
      try clear hfz18_3
      try clear hfz18_4
      try clear hfz18_5
      try clear hfz18_6
      try clear hfz18_7
      try clear p2
      obtain ⟨x22_2, x17000_2, x17001_2, x17002_2, x17003_2, x17004_2, x17005_2, x17006_2, x17007_2, u17002, u17003, rfl, HA, HK2, HO_17002, HO_17003, BK1, BK16, HB⟩ := hrel
      cases gk with
      | zero => exact absurd HA.out (by simp [q27z.l0])
      | succ k2 =>
       have H := HA.out
       clear HA
       simp only [q27z.l0] at H
       by_cases c21 : x22_2 < (l0.length : Int)
       ·
        rw [if_pos c21] at H
        have c21b0 : decide (x22_2 < (l0.length : Int)) = true := decide_eq_true c21
        clear c21
        by_cases c22 : 0 ≤ x22_2
        ·
         rw [if_pos c22] at H
         have c22b0 : decide (0 ≤ x22_2) = true := decide_eq_true c22
         clear c22
         by_cases c23 : x22_2 < (l0.length : Int)
         ·
          rw [if_pos c23] at H
          have c23b0 : decide (x22_2 < (l0.length : Int)) = true := decide_eq_true c23
          clear c23
          by_cases c24 : (((rd_T26 l0 x22_2).f2).length : Int) > 100
          ·
           rw [if_pos c24] at H
           have c24b0 : decide (100 < (((rd_T26 l0 x22_2).f2).length : Int)) = true := decide_eq_true c24
           have c24b1 : decide (100 < ((rd_T26 l0 x22_2).f2).length) = true := decide_eq_true (by omega)
           clear c24
           obtain rfl := Option.some.inj H
           have p17 : 0 ≤ (x22_2 : Int) := of_decide_eq_true (by first | (with_reducible assumption) | assumption)
           have q17 : x22_2 < (l0.length : Int) := of_decide_eq_true (by first | (with_reducible assumption) | assumption)
           obtain ⟨ad17, A17_2, c17_2, A17_3, c17_3, e17, hx17_0, hx17_1, hx17_2, hx17_3, hl17_2, hi17_2, hl17_3, hi17_3⟩ := at_T26 HR0.out x22_2 p17 q17
           cases e17
           replace hx17_0 := (HB.out.cell (World.block_lt_of_cell? w _ hx17_0)).trans hx17_0
           replace hx17_1 := (HB.out.cell (World.block_lt_of_cell? w _ hx17_1)).trans hx17_1
           replace hx17_2 := (HB.out.cell (World.block_lt_of_cell? w _ hx17_2)).trans hx17_2
           replace hx17_3 := (HB.out.cell (World.block_lt_of_cell? w _ hx17_3)).trans hx17_3
           have HR17_2 := Aside0.mk hi17_2
           have HC17_2 := Aside0.mk hl17_2
           clear hi17_2 hl17_2
           have HR17_3 := Aside0.mk hi17_3
           have HC17_3 := Aside0.mk hl17_3
           clear hi17_3 hl17_3
           replace p17 := eq_true p17
           replace q17 := eq_true q17
           go_wp2_with (first | ((with_reducible refine gate_dst (N := 7) rfl ?_); refine box_event ?hg (N := 7) ?hd (cs := #[.int .i64 0, .int .u32 0, .slice none 0 0, .slice none 0 0]) (t := 26) ?hr ?_; (case hd => rfl); (case hg => rfl); (case hr => first | (go_simp; done) | (go_simp; rfl)); intro gb18 hg w25 hbox hb; have n0_ := Aside0.mk (Kd.R_below (rW HO_17002) hb); have n1_ := Aside0.mk (Kd.R_below (rW HO_17003) hb); have n2_ := bkB BK1 hb; have n3_ := bkB BK16 hb; have n4_ := hbS HB hb; have n5_ := Aside0.mk (hbox); have n6_ := Aside0.mk ((by rw [hg]; exact (below_size (hbW HB)) : w.heap.size ≤ gb18)); have n7_ := Aside0.mk ((by rw [hg]; exact (below_size (hbW HB)) : w.heap.size ≤ gb18)); have n8_ := Aside0.mk ((by rw [hg]; exact Nat.ne_of_lt (blk_lt (bkW BK1)) : gb1 ≠ gb18)); have n9_ := Aside0.mk ((by rw [hg]; exact Nat.ne_of_gt (blk_lt (bkW BK1)) : gb18 ≠ gb1)); have n10_ := Aside0.mk ((by rw [hg]; exact Nat.ne_of_lt (blk_lt (bkW BK16)) : gb16 ≠ gb18)); have n11_ := Aside0.mk ((by rw [hg]; exact Nat.ne_of_gt (blk_lt (bkW BK16)) : gb18 ≠ gb16)); clear HO_17002; clear HO_17003; clear BK1; clear BK16; clear HB; have HO_17002 := n0_; have HO_17003 := n1_; have BK1 := n2_; have BK16 := n3_; have HB := n4_; have BK18 := n5_; have GW18 := n6_; have GE18 := n7_; have NB1_18 := n8_; have NB18_1 := n9_; have NB16_18 := n10_; have NB18_16 := n11_; clear n0_ n1_ n2_ n3_ n4_ n5_ n6_ n7_ n8_ n9_ n10_ n11_; clear hb hbox hg; have hnb26 := NB18_1.out; have hnc26 := NB1_18.out; have hnb27 := NB18_16.out; have hnc27 := NB16_18.out; have hcz28_0 : w25.cell? ⟨gb18, 0, none⟩ = some (.int .i64 0) := (blk_cell BK18.out 0).trans rfl; have hcz28_1 : w25.cell? ⟨gb18, 1, none⟩ = some (.int .u32 0) := (blk_cell BK18.out 1).trans rfl; have hcz28_2 : w25.cell? ⟨gb18, 2, none⟩ = some (.slice none 0 0) := (blk_cell BK18.out 2).trans rfl; have hcz28_3 : w25.cell? ⟨gb18, 3, none⟩ = some (.slice none 0 0) := (blk_cell BK18.out 3).trans rfl; have hfz28_0 := blk_frozen BK18.out 0; have hfz28_1 := blk_frozen BK18.out 1; have hfz28_2 := blk_frozen BK18.out 2; have hfz28_3 := blk_frozen BK18.out 3))
           go_ret
           exact ⟨by first | rfl | (simp [errW_none, errW_some] <;> rfl) | (simp [*, errW_none, errW_some] <;> rfl), hbW HB⟩
          ·
           rw [if_neg c24] at H
           have c24b0 : decide (100 < (((rd_T26 l0 x22_2).f2).length : Int)) = false := decide_eq_false c24
           have c24b1 : decide (100 < ((rd_T26 l0 x22_2).f2).length) = false := decide_eq_false (by omega)
           clear c24
           replace H := Option.bind_eq_some_iff.mp H
           obtain ⟨t19, A290, H⟩ := H
           replace H : (if t19 = true then (some true) else ((q9z.f k2 ((rd_T26 l0 x22_2).f0) ((rd_T26 l0 x22_2).f1) ((rd_T26 l0 x22_2).f2) ((rd_T26 l0 x22_2).f3) x17000_2 x17001_2 x17002_2 x17003_2 x17004_2 x17005_2 x17006_2 x17007_2).bind fun bt20 => (q27z.l0 k2 l0 l0 (l0.length : Int) (wrap64 (x22_2 + 1)) a1_0 a1_1 l1_2 l1_3 a1_4 a1_5 a1_6 a1_7 bt20.1 bt20.2.1 bt20.2.2.1 bt20.2.2.2.1 bt20.2.2.2.2.1 bt20.2.2.2.2.2.1 bt20.2.2.2.2.2.2.1 bt20.2.2.2.2.2.2.2))) = some r := H
           have A29 := Aside0.mk A290
           clear A290
           by_cases c30 : t19 = true
           ·
            subst c30
            have H1 : (some true) = some r := by rw [if_pos rfl] at H; exact H
            clear H
            have H := H1
            clear H1
            obtain rfl := Option.some.inj H
            have p17 : 0 ≤ (x22_2 : Int) := of_decide_eq_true (by first | (with_reducible assumption) | assumption)
            have q17 : x22_2 < (l0.length : Int) := of_decide_eq_true (by first | (with_reducible assumption) | assumption)
            obtain ⟨ad17, A17_2, c17_2, A17_3, c17_3, e17, hx17_0, hx17_1, hx17_2, hx17_3, hl17_2, hi17_2, hl17_3, hi17_3⟩ := at_T26 HR0.out x22_2 p17 q17
            cases e17
            replace hx17_0 := (HB.out.cell (World.block_lt_of_cell? w _ hx17_0)).trans hx17_0
            replace hx17_1 := (HB.out.cell (World.block_lt_of_cell? w _ hx17_1)).trans hx17_1
            replace hx17_2 := (HB.out.cell (World.block_lt_of_cell? w _ hx17_2)).trans hx17_2
            replace hx17_3 := (HB.out.cell (World.block_lt_of_cell? w _ hx17_3)).trans hx17_3
            have HR17_2 := Aside0.mk hi17_2
            have HC17_2 := Aside0.mk hl17_2
            clear hi17_2 hl17_2
            have HR17_3 := Aside0.mk hi17_3
            have HC17_3 := Aside0.mk hl17_3
            clear hi17_3 hl17_3
            replace p17 := eq_true p17
            replace q17 := eq_true q17
            go_wp2_with (first | ((with_reducible refine gate_dst (N := 7) rfl ?_); refine box_event ?hg (N := 7) ?hd (cs := #[.int .i64 0, .int .u32 0, .slice none 0 0, .slice none 0 0]) (t := 26) ?hr ?_; (case hd => rfl); (case hg => rfl); (case hr => first | (go_simp; done) | (go_simp; rfl)); intro gb18 hg w31 hbox hb; have n0_ := Aside0.mk (Kd.R_below (rW HO_17002) hb); have n1_ := Aside0.mk (Kd.R_below (rW HO_17003) hb); have n2_ := bkB BK1 hb; have n3_ := bkB BK16 hb; have n4_ := hbS HB hb; have n5_ := Aside0.mk (hbox); have n6_ := Aside0.mk ((by rw [hg]; exact (below_size (hbW HB)) : w.heap.size ≤ gb18)); have n7_ := Aside0.mk ((by rw [hg]; exact (below_size (hbW HB)) : w.heap.size ≤ gb18)); have n8_ := Aside0.mk ((by rw [hg]; exact Nat.ne_of_lt (blk_lt (bkW BK1)) : gb1 ≠ gb18)); have n9_ := Aside0.mk ((by rw [hg]; exact Nat.ne_of_gt (blk_lt (bkW BK1)) : gb18 ≠ gb1)); have n10_ := Aside0.mk ((by rw [hg]; exact Nat.ne_of_lt (blk_lt (bkW BK16)) : gb16 ≠ gb18)); have n11_ := Aside0.mk ((by rw [hg]; exact Nat.ne_of_gt (blk_lt (bkW BK16)) : gb18 ≠ gb16)); clear HO_17002; clear HO_17003; clear BK1; clear BK16; clear HB; have HO_17002 := n0_; have HO_17003 := n1_; have BK1 := n2_; have BK16 := n3_; have HB := n4_; have BK18 := n5_; have GW18 := n6_; have GE18 := n7_; have NB1_18 := n8_; have NB18_1 := n9_; have NB16_18 := n10_; have NB18_16 := n11_; clear n0_ n1_ n2_ n3_ n4_ n5_ n6_ n7_ n8_ n9_ n10_ n11_; clear hb hbox hg; have hnb32 := NB18_1.out; have hnc32 := NB1_18.out; have hnb33 := NB18_16.out; have hnc33 := NB16_18.out; have hcz34_0 : w31.cell? ⟨gb18, 0, none⟩ = some (.int .i64 0) := (blk_cell BK18.out 0).trans rfl; have hcz34_1 : w31.cell? ⟨gb18, 1, none⟩ = some (.int .u32 0) := (blk_cell BK18.out 1).trans rfl; have hcz34_2 : w31.cell? ⟨gb18, 2, none⟩ = some (.slice none 0 0) := (blk_cell BK18.out 2).trans rfl; have hcz34_3 : w31.cell? ⟨gb18, 3, none⟩ = some (.slice none 0 0) := (blk_cell BK18.out 3).trans rfl; have hfz34_0 := blk_frozen BK18.out 0; have hfz34_1 := blk_frozen BK18.out 1; have hfz34_2 := blk_frozen BK18.out 2; have hfz34_3 := blk_frozen BK18.out 3) | (go_at_call 9; (with_reducible refine (q26z.calls k2 ((rd_T26 l0 x22_2).f0) ((rd_T26 l0 x22_2).f1) _ _ ((rd_T26 l0 x22_2).f2) _ _ ((rd_T26 l0 x22_2).f3) true _ ?side1 ?side2 ?side3 ?side4 A29.out).mono ?_); (case side1 => exact Kd.C_below HR17_2.out (hbW HB)); (case side2 => exact HC17_2.out); (case side3 => exact Kd.C_below HR17_3.out (hbW HB)); (case side4 => exact HC17_3.out); rintro e w35 ⟨rfl, hb⟩; have n0_ := Aside0.mk (Kd.R_below (rW HO_17002) hb); have n1_ := Aside0.mk (Kd.R_below (rW HO_17003) hb); have n2_ := Aside0.mk (blk_below (g := gb1) (o := .cells #[.int .u32 a1_0, .int .i64 a1_1, .slice A1_2 l1_2.length c1_2, .slice A1_3 l1_3.length c1_3, .int .u32 a1_4, .int .u32 a1_5, .int .i64 a1_6, .int .u32 a1_7] 30 (0, 0)) (by (with_reducible repeat (first | refine blk_drewN ?_ _ | refine blk_drew ?_ | refine blk_alloc ?_ _)); refine blk_far ?_ NB1_18.out _; (with_reducible repeat (first | refine blk_drewN ?_ _ | refine blk_drew ?_ | refine blk_alloc ?_ _)); refine blk_far ?_ NB1_18.out _; (with_reducible repeat (first | refine blk_drewN ?_ _ | refine blk_drew ?_ | refine blk_alloc ?_ _)); refine blk_far ?_ NB1_18.out _; (with_reducible repeat (first | refine blk_drewN ?_ _ | refine blk_drew ?_ | refine blk_alloc ?_ _)); refine blk_far ?_ NB1_18.out _; (with_reducible repeat (first | refine blk_drewN ?_ _ | refine blk_drew ?_ | refine blk_alloc ?_ _)); exact BK1.out) hb); have n3_ := Aside0.mk (blk_below (g := gb16) (o := .cells #[.int .u32 x17000_2, .int .i64 x17001_2, u17002, u17003, .int .u32 x17004_2, .int .u32 x17005_2, .int .i64 x17006_2, .int .u32 x17007_2] 30 (0, 0)) (by (with_reducible repeat (first | refine blk_drewN ?_ _ | refine blk_drew ?_ | refine blk_alloc ?_ _)); refine blk_far ?_ NB16_18.out _; (with_reducible repeat (first | refine blk_drewN ?_ _ | refine blk_drew ?_ | refine blk_alloc ?_ _)); refine blk_far ?_ NB16_18.out _; (with_reducible repeat (first | refine blk_drewN ?_ _ | refine blk_drew ?_ | refine blk_alloc ?_ _)); refine blk_far ?_ NB16_18.out _; (with_reducible repeat (first | refine blk_drewN ?_ _ | refine blk_drew ?_ | refine blk_alloc ?_ _)); refine blk_far ?_ NB16_18.out _; (with_reducible repeat (first | refine blk_drewN ?_ _ | refine blk_drew ?_ | refine blk_alloc ?_ _)); exact BK16.out) hb); have n4_ := Aside0.mk (blk_below (g := gb18) (o := .cells #[.int .i64 ((rd_T26 l0 x22_2).f0), .int .u32 ((rd_T26 l0 x22_2).f1), .slice A17_2 ((rd_T26 l0 x22_2).f2).length c17_2, .slice A17_3 ((rd_T26 l0 x22_2).f3).length c17_3] 26 (0, 0)) (bp4 BK18) hb); have n5_ := hbS HB hb; clear HO_17002; clear HO_17003; clear BK1; clear BK16; clear BK18; clear HB; have HO_17002 := n0_; have HO_17003 := n1_; have BK1 := n2_; have BK16 := n3_; have BK18 := n4_; have HB := n5_; clear n0_ n1_ n2_ n3_ n4_ n5_; (try clear hb); (try clear hb2); (try clear hk); (try clear hi)))
            go_ret
            exact ⟨by first | rfl | (simp [errW_none, errW_some] <;> rfl) | (simp [*, errW_none, errW_some] <;> rfl), hbW HB⟩
           ·
            replace c30 := Bool.eq_false_iff.mpr c30
            subst c30
            have H1 : ((q9z.f k2 ((rd_T26 l0 x22_2).f0) ((rd_T26 l0 x22_2).f1) ((rd_T26 l0 x22_2).f2) ((rd_T26 l0 x22_2).f3) x17000_2 x17001_2 x17002_2 x17003_2 x17004_2 x17005_2 x17006_2 x17007_2).bind fun bt20 => (q27z.l0 k2 l0 l0 (l0.length : Int) (wrap64 (x22_2 + 1)) a1_0 a1_1 l1_2 l1_3 a1_4 a1_5 a1_6 a1_7 bt20.1 bt20.2.1 bt20.2.2.1 bt20.2.2.2.1 bt20.2.2.2.2.1 bt20.2.2.2.2.2.1 bt20.2.2.2.2.2.2.1 bt20.2.2.2.2.2.2.2)) = some r := by rw [if_neg (show ¬ (false = true) by decide)] at H; exact H
            clear H
            have H := H1
            clear H1
            replace H := Option.bind_eq_some_iff.mp H
            obtain ⟨⟨t20, t21, t22, t25, t28, t29, t30, t31⟩, A360, H⟩ := H
            replace H : (q27z.l0 k2 l0 l0 (l0.length : Int) (wrap64 (x22_2 + 1)) a1_0 a1_1 l1_2 l1_3 a1_4 a1_5 a1_6 a1_7 t20 t21 t22 t25 t28 t29 t30 t31) = some r := H
            have A36 := Aside0.mk A360
            clear A360
            have H' := Aside0.mk H
            clear H
            have p17 : 0 ≤ (x22_2 : Int) := of_decide_eq_true (by first | (with_reducible assumption) | assumption)
            have q17 : x22_2 < (l0.length : Int) := of_decide_eq_true (by first | (with_reducible assumption) | assumption)
            obtain ⟨ad17, A17_2, c17_2, A17_3, c17_3, e17, hx17_0, hx17_1, hx17_2, hx17_3, hl17_2, hi17_2, hl17_3, hi17_3⟩ := at_T26 HR0.out x22_2 p17 q17
            cases e17
            replace hx17_0 := (HB.out.cell (World.block_lt_of_cell? w _ hx17_0)).trans hx17_0
            replace hx17_1 := (HB.out.cell (World.block_lt_of_cell? w _ hx17_1)).trans hx17_1
            replace hx17_2 := (HB.out.cell (World.block_lt_of_cell? w _ hx17_2)).trans hx17_2
            replace hx17_3 := (HB.out.cell (World.block_lt_of_cell? w _ hx17_3)).trans hx17_3
            have HR17_2 := Aside0.mk hi17_2
            have HC17_2 := Aside0.mk hl17_2
            clear hi17_2 hl17_2
            have HR17_3 := Aside0.mk hi17_3
            have HC17_3 := Aside0.mk hl17_3
            clear hi17_3 hl17_3
            replace p17 := eq_true p17
            replace q17 := eq_true q17
            go_wp2_with (first | ((with_reducible refine gate_dst (N := 7) rfl ?_); refine box_event ?hg (N := 7) ?hd (cs := #[.int .i64 0, .int .u32 0, .slice none 0 0, .slice none 0 0]) (t := 26) ?hr ?_; (case hd => rfl); (case hg => rfl); (case hr => first | (go_simp; done) | (go_simp; rfl)); intro gb18 hg w37 hbox hb; have n0_ := Aside0.mk (Kd.R_below (rW HO_17002) hb); have n1_ := Aside0.mk (Kd.R_below (rW HO_17003) hb); have n2_ := bkB BK1 hb; have n3_ := bkB BK16 hb; have n4_ := hbS HB hb; have n5_ := Aside0.mk (hbox); have n6_ := Aside0.mk ((by rw [hg]; exact (below_size (hbW HB)) : w.heap.size ≤ gb18)); have n7_ := Aside0.mk ((by rw [hg]; exact (below_size (hbW HB)) : w.heap.size ≤ gb18)); have n8_ := Aside0.mk ((by rw [hg]; exact Nat.ne_of_lt (blk_lt (bkW BK1)) : gb1 ≠ gb18)); have n9_ := Aside0.mk ((by rw [hg]; exact Nat.ne_of_gt (blk_lt (bkW BK1)) : gb18 ≠ gb1)); have n10_ := Aside0.mk ((by rw [hg]; exact Nat.ne_of_lt (blk_lt (bkW BK16)) : gb16 ≠ gb18)); have n11_ := Aside0.mk ((by rw [hg]; exact Nat.ne_of_gt (blk_lt (bkW BK16)) : gb18 ≠ gb16)); clear HO_17002; clear HO_17003; clear BK1; clear BK16; clear HB; have HO_17002 := n0_; have HO_17003 := n1_; have BK1 := n2_; have BK16 := n3_; have HB := n4_; have BK18 := n5_; have GW18 := n6_; have GE18 := n7_; have NB1_18 := n8_; have NB18_1 := n9_; have NB16_18 := n10_; have NB18_16 := n11_; clear n0_ n1_ n2_ n3_ n4_ n5_ n6_ n7_ n8_ n9_ n10_ n11_; clear hb hbox hg; have hnb38 := NB18_1.out; have hnc38 := NB1_18.out; have hnb39 := NB18_16.out; have hnc39 := NB16_18.out; have hcz40_0 : w37.cell? ⟨gb18, 0, none⟩ = some (.int .i64 0) := (blk_cell BK18.out 0).trans rfl; have hcz40_1 : w37.cell? ⟨gb18, 1, none⟩ = some (.int .u32 0) := (blk_cell BK18.out 1).trans rfl; have hcz40_2 : w37.cell? ⟨gb18, 2, none⟩ = some (.slice none 0 0) := (blk_cell BK18.out 2).trans rfl; have hcz40_3 : w37.cell? ⟨gb18, 3, none⟩ = some (.slice none 0 0) := (blk_cell BK18.out 3).trans rfl; have hfz40_0 := blk_frozen BK18.out 0; have hfz40_1 := blk_frozen BK18.out 1; have hfz40_2 := blk_frozen BK18.out 2; have hfz40_3 := blk_frozen BK18.out 3) | (go_at_call 9; (with_reducible refine (q26z.calls k2 ((rd_T26 l0 x22_2).f0) ((rd_T26 l0 x22_2).f1) _ _ ((rd_T26 l0 x22_2).f2) _ _ ((rd_T26 l0 x22_2).f3) false _ ?side1 ?side2 ?side3 ?side4 A29.out).mono ?_); (case side1 => exact Kd.C_below HR17_2.out (hbW HB)); (case side2 => exact HC17_2.out); (case side3 => exact Kd.C_below HR17_3.out (hbW HB)); (case side4 => exact HC17_3.out); rintro e w41 ⟨rfl, hb⟩; have n0_ := Aside0.mk (Kd.R_below (rW HO_17002) hb); have n1_ := Aside0.mk (Kd.R_below (rW HO_17003) hb); have n2_ := Aside0.mk (blk_below (g := gb1) (o := .cells #[.int .u32 a1_0, .int .i64 a1_1, .slice A1_2 l1_2.length c1_2, .slice A1_3 l1_3.length c1_3, .int .u32 a1_4, .int .u32 a1_5, .int .i64 a1_6, .int .u32 a1_7] 30 (0, 0)) (by (with_reducible repeat (first | refine blk_drewN ?_ _ | refine blk_drew ?_ | refine blk_alloc ?_ _)); refine blk_far ?_ NB1_18.out _; (with_reducible repeat (first | refine blk_drewN ?_ _ | refine blk_drew ?_ | refine blk_alloc ?_ _)); refine blk_far ?_ NB1_18.out _; (with_reducible repeat (first | refine blk_drewN ?_ _ | refine blk_drew ?_ | refine blk_alloc ?_ _)); refine blk_far ?_ NB1_18.out _; (with_reducible repeat (first | refine blk_drewN ?_ _ | refine blk_drew ?_ | refine blk_alloc ?_ _)); refine blk_far ?_ NB1_18.out _; (with_reducible repeat (first | refine blk_drewN ?_ _ | refine blk_drew ?_ | refine blk_alloc ?_ _)); exact BK1.out) hb); have n3_ := Aside0.mk (blk_below (g := gb16) (o := .cells #[.int .u32 x17000_2, .int .i64 x17001_2, u17002, u17003, .int .u32 x17004_2, .int .u32 x17005_2, .int .i64 x17006_2, .int .u32 x17007_2] 30 (0, 0)) (by (with_reducible repeat (first | refine blk_drewN ?_ _ | refine blk_drew ?_ | refine blk_alloc ?_ _)); refine blk_far ?_ NB16_18.out _; (with_reducible repeat (first | refine blk_drewN ?_ _ | refine blk_drew ?_ | refine blk_alloc ?_ _)); refine blk_far ?_ NB16_18.out _; (with_reducible repeat (first | refine blk_drewN ?_ _ | refine blk_drew ?_ | refine blk_alloc ?_ _)); refine blk_far ?_ NB16_18.out _; (with_reducible repeat (first | refine blk_drewN ?_ _ | refine blk_drew ?_ | refine blk_alloc ?_ _)); refine blk_far ?_ NB16_18.out _; (with_reducible repeat (first | refine blk_drewN ?_ _ | refine blk_drew ?_ | refine blk_alloc ?_ _)); exact BK16.out) hb); have n4_ := Aside0.mk (blk_below (g := gb18) (o := .cells #[.int .i64 ((rd_T26 l0 x22_2).f0), .int .u32 ((rd_T26 l0 x22_2).f1), .slice A17_2 ((rd_T26 l0 x22_2).f2).length c17_2, .slice A17_3 ((rd_T26 l0 x22_2).f3).length c17_3] 26 (0, 0)) (bp4 BK18) hb); have n5_ := hbS HB hb; clear HO_17002; clear HO_17003; clear BK1; clear BK16; clear BK18; clear HB; have HO_17002 := n0_; have HO_17003 := n1_; have BK1 := n2_; have BK16 := n3_; have BK18 := n4_; have HB := n5_; clear n0_ n1_ n2_ n3_ n4_ n5_; (try clear hb); (try clear hb2); (try clear hk); (try clear hi); have hcz42_0 : w41.cell? ⟨gb18, 0, none⟩ = some (.int .i64 ((rd_T26 l0 x22_2).f0)) := (blk_cell BK18.out 0).trans rfl; have hcz42_1 : w41.cell? ⟨gb18, 1, none⟩ = some (.int .u32 ((rd_T26 l0 x22_2).f1)) := (blk_cell BK18.out 1).trans rfl; have hcz42_2 : w41.cell? ⟨gb18, 2, none⟩ = some (.slice A17_2 ((rd_T26 l0 x22_2).f2).length c17_2) := (blk_cell BK18.out 2).trans rfl; have hcz42_3 : w41.cell? ⟨gb18, 3, none⟩ = some (.slice A17_3 ((rd_T26 l0 x22_2).f3).length c17_3) := (blk_cell BK18.out 3).trans rfl; have hfz42_0 := blk_frozen BK18.out 0; have hfz42_1 := blk_frozen BK18.out 1; have hfz42_2 := blk_frozen BK18.out 2; have hfz42_3 := blk_frozen BK18.out 3; have hnb43 := NB16_1.out; have hnc43 := NB1_16.out; have hcz44_0 : w41.cell? ⟨gb16, 0, none⟩ = some (.int .u32 x17000_2) := (blk_cell BK16.out 0).trans rfl; have hcz44_1 : w41.cell? ⟨gb16, 1, none⟩ = some (.int .i64 x17001_2) := (blk_cell BK16.out 1).trans rfl; have hcz44_2 : w41.cell? ⟨gb16, 2, none⟩ = some (u17002) := (blk_cell BK16.out 2).trans rfl; have hcz44_3 : w41.cell? ⟨gb16, 3, none⟩ = some (u17003) := (blk_cell BK16.out 3).trans rfl; have hcz44_4 : w41.cell? ⟨gb16, 4, none⟩ = some (.int .u32 x17004_2) := (blk_cell BK16.out 4).trans rfl; have hcz44_5 : w41.cell? ⟨gb16, 5, none⟩ = some (.int .u32 x17005_2) := (blk_cell BK16.out 5).trans rfl; have hcz44_6 : w41.cell? ⟨gb16, 6, none⟩ = some (.int .i64 x17006_2) := (blk_cell BK16.out 6).trans rfl; have hcz44_7 : w41.cell? ⟨gb16, 7, none⟩ = some (.int .u32 x17007_2) := (blk_cell BK16.out 7).trans rfl; have hfz44_0 := blk_frozen BK16.out 0; have hfz44_1 := blk_frozen BK16.out 1; have hfz44_2 := blk_frozen BK16.out 2; have hfz44_3 := blk_frozen BK16.out 3; have hfz44_4 := blk_frozen BK16.out 4; have hfz44_5 := blk_frozen BK16.out 5; have hfz44_6 := blk_frozen BK16.out 6; have hfz44_7 := blk_frozen BK16.out 7; obtain ⟨Ao45, co45, eo45⟩ := Kd.R_slice HO_17002.out; subst eo45; obtain ⟨Ao46, co46, eo46⟩ := Kd.R_slice HO_17003.out; subst eo46) | ((with_reducible refine gate_callee (f := 13) rfl ?_); refine goesL_ (some 36) rfl rfl Try.func13 (by kernel_rfl) rfl #[.agg #[.int .i64 ((rd_T26 l0 x22_2).f0), .int .u32 ((rd_T26 l0 x22_2).f1), .slice A17_2 ((rd_T26 l0 x22_2).f2).length c17_2, .slice A17_3 ((rd_T26 l0 x22_2).f3).length c17_3], .agg #[.int .u32 x17000_2, .int .i64 x17001_2, .slice Ao45 x17002_2.length co45, .slice Ao46 x17003_2.length co46, .int .u32 x17004_2, .int .u32 x17005_2, .int .i64 x17006_2, .int .u32 x17007_2]] rfl (by (try simp only [List.map_toArray, List.map_cons, List.map_nil]); first | done | rfl | (simp only [List.length_drop, List.length_take]; rfl)) ?_; (with_reducible refine (q9z.calls k2 ((rd_T26 l0 x22_2).f0) ((rd_T26 l0 x22_2).f1) (fun k_ => k_ < w.heap.size) _ _ ((rd_T26 l0 x22_2).f2) _ _ ((rd_T26 l0 x22_2).f3) x17000_2 x17001_2 _ _ x17002_2 _ _ x17003_2 x17004_2 x17005_2 x17006_2 x17007_2 t20 t21 t22 t25 t28 t29 t30 t31 _ ?side1 ?side2 ?side3 ?side4 ?side5 ?side6 ?side7 A36.out).mono ?_); (case side1 => exact Kd.V_mk HC17_2.out (Kd.F_below (Kd.C_F (Kd.heap_int .u32) HR17_2.out) (hbW HB))); (case side2 => repeat (first | exact (Kd.C_below HR17_3.out HB.out) | (with_reducible refine Kd.C_alloc ?_ _) | (with_reducible refine Kd.C_drewN ?_ _) | (with_reducible refine Kd.C_drew ?_))); (case side3 => exact HC17_3.out); (case side4 => repeat (first | exact (Kd.R_reads' HO_17002.out).2.2 | (with_reducible refine Kd.C_alloc ?_ _) | (with_reducible refine Kd.C_drewN ?_ _) | (with_reducible refine Kd.C_drew ?_))); (case side5 => exact (Kd.R_reads' HO_17002.out).2.1); (case side6 => repeat (first | exact (Kd.R_reads' HO_17003.out).2.2 | (with_reducible refine Kd.C_alloc ?_ _) | (with_reducible refine Kd.C_drewN ?_ _) | (with_reducible refine Kd.C_drew ?_))); (case side7 => exact (Kd.R_reads' HO_17003.out).2.1); rintro e w47 ⟨v23, v26, rfl, ho0, ho1, hb⟩; refine ⟨_, rfl, ?_⟩; have n0_ := Aside0.mk (Kd.R_mono (Kd.R_told (Kd.R_told (Kd.R_old (rW HO_17002) hb) (Kd.R_base ho0)) (Kd.R_base ho1)) (fun _ h_ => h_.1)); have n1_ := Aside0.mk (Kd.R_mono (Kd.R_told (Kd.R_told (Kd.R_old (rW HO_17003) hb) (Kd.R_base ho0)) (Kd.R_base ho1)) (fun _ h_ => h_.1)); have n2_ := Aside0.mk (Kd.R_lower (Kd.R_new' (Kd.R_new' (Kd.R_mono (ok' := fun k_ => some k_ ≠ (v26 : Value).ownBlock) ho0 (fun _ hk_ => hk_.2)) (Kd.R_lt (rW HO_17002))) (Kd.R_lt (rW HO_17003))) (below_size (hbW HB))); have n3_ := Aside0.mk (Kd.R_lower (Kd.R_new' (Kd.R_new' (Kd.R_mono (ok' := fun k_ => some k_ ≠ (v23 : Value).ownBlock) ho1 (fun _ hk_ => hk_.2)) (Kd.R_lt (rW HO_17002))) (Kd.R_lt (rW HO_17003))) (below_size (hbW HB))); have n4_ := bkB BK1 hb; have n5_ := bkB BK16 hb; have n6_ := bkB BK18 hb; have n7_ := hbS HB hb; clear HO_17002; clear HO_17003; clear BK1; clear BK16; clear BK18; clear HB; have HO_17002 := n0_; have HO_17003 := n1_; have HO24 := n2_; have HO27 := n3_; have BK1 := n4_; have BK16 := n5_; have BK18 := n6_; have HB := n7_; clear n0_ n1_ n2_ n3_ n4_ n5_ n6_ n7_; (try clear hb); (try clear hb2); (try clear hk); (try clear hi); (try clear ho0); (try clear ho1); have hcz48_0 : w47.cell? ⟨gb16, 0, none⟩ = some (.int .u32 x17000_2) := (blk_cell BK16.out 0).trans rfl; have hcz48_1 : w47.cell? ⟨gb16, 1, none⟩ = some (.int .i64 x17001_2) := (blk_cell BK16.out 1).trans rfl; have hcz48_2 : w47.cell? ⟨gb16, 2, none⟩ = some (.slice Ao45 x17002_2.length co45) := (blk_cell BK16.out 2).trans rfl; have hcz48_3 : w47.cell? ⟨gb16, 3, none⟩ = some (.slice Ao46 x17003_2.length co46) := (blk_cell BK16.out 3).trans rfl; have hcz48_4 : w47.cell? ⟨gb16, 4, none⟩ = some (.int .u32 x17004_2) := (blk_cell BK16.out 4).trans rfl; have hcz48_5 : w47.cell? ⟨gb16, 5, none⟩ = some (.int .u32 x17005_2) := (blk_cell BK16.out 5).trans rfl; have hcz48_6 : w47.cell? ⟨gb16, 6, none⟩ = some (.int .i64 x17006_2) := (blk_cell BK16.out 6).trans rfl; have hcz48_7 : w47.cell? ⟨gb16, 7, none⟩ = some (.int .u32 x17007_2) := (blk_cell BK16.out 7).trans rfl; have hfz48_0 := blk_frozen BK16.out 0; have hfz48_1 := blk_frozen BK16.out 1; have hfz48_2 := blk_frozen BK16.out 2; have hfz48_3 := blk_frozen BK16.out 3; have hfz48_4 := blk_frozen BK16.out 4; have hfz48_5 := blk_frozen BK16.out 5; have hfz48_6 := blk_frozen BK16.out 6; have hfz48_7 := blk_frozen BK16.out 7; obtain ⟨Ao49, co49, eo49⟩ := Kd.R_slice HO24.out; subst eo49; obtain ⟨Ao50, co50, eo50⟩ := Kd.R_slice HO27.out; subst eo50))
            go_roundg k2
            case measure => have := HJ4.out; have := HK2.out; omega
            case rel => exact ⟨(wrap64 (x22_2 + 1)), (t20), (t21), (t22), (t25), (t28), (t29), (t30), (t31), (.slice Ao49 t22.length co49), (.slice Ao50 t25.length co50), (by first | rfl | (simp; done) | (simp [*]; done)), H', ⟨by have := HJ4.out; have := HK2.out; omega⟩, ⟨by (with_reducible repeat (first | apply Kd.R_alloc | apply Kd.R_drewN | apply Kd.R_drew)); exact Kd.R_mono (Kd.R_far (p := ⟨gb16, 7, none⟩) (Kd.R_far (p := ⟨gb16, 6, none⟩) (Kd.R_far (p := ⟨gb16, 5, none⟩) (Kd.R_far (p := ⟨gb16, 4, none⟩) (Kd.R_far (p := ⟨gb16, 3, none⟩) (Kd.R_far (p := ⟨gb16, 2, none⟩) (Kd.R_far (p := ⟨gb16, 1, none⟩) (Kd.R_far (p := ⟨gb16, 0, none⟩) (Kd.R_types HO24.out BK16.out (by decide)) (fun _ hk => hk.2) (.int .u32 t20)) (fun _ hk => hk.2) (.int .i64 t21)) (fun _ hk => hk.2) (.slice Ao49 t22.length co49)) (fun _ hk => hk.2) (.slice Ao50 t25.length co50)) (fun _ hk => hk.2) (.int .u32 t28)) (fun _ hk => hk.2) (.int .u32 t29)) (fun _ hk => hk.2) (.int .i64 t30)) (fun _ hk => hk.2) (.int .u32 t31)) (fun _ hk => hk.1.1.1)⟩, ⟨by (with_reducible repeat (first | apply Kd.R_alloc | apply Kd.R_drewN | apply Kd.R_drew)); exact Kd.R_mono (Kd.R_far (p := ⟨gb16, 7, none⟩) (Kd.R_far (p := ⟨gb16, 6, none⟩) (Kd.R_far (p := ⟨gb16, 5, none⟩) (Kd.R_far (p := ⟨gb16, 4, none⟩) (Kd.R_far (p := ⟨gb16, 3, none⟩) (Kd.R_far (p := ⟨gb16, 2, none⟩) (Kd.R_far (p := ⟨gb16, 1, none⟩) (Kd.R_far (p := ⟨gb16, 0, none⟩) (Kd.R_types HO27.out BK16.out (by decide)) (fun _ hk => hk.2) (.int .u32 t20)) (fun _ hk => hk.2) (.int .i64 t21)) (fun _ hk => hk.2) (.slice Ao49 t22.length co49)) (fun _ hk => hk.2) (.slice Ao50 t25.length co50)) (fun _ hk => hk.2) (.int .u32 t28)) (fun _ hk => hk.2) (.int .u32 t29)) (fun _ hk => hk.2) (.int .i64 t30)) (fun _ hk => hk.2) (.int .u32 t31)) (fun _ hk => hk.1.1.1)⟩, ⟨by (with_reducible repeat (first | refine blk_drewN ?_ _ | refine blk_drew ?_ | refine blk_alloc ?_ _)); refine blk_far ?_ NB1_16.out _; (with_reducible repeat (first | refine blk_drewN ?_ _ | refine blk_drew ?_ | refine blk_alloc ?_ _)); refine blk_far ?_ NB1_16.out _; (with_reducible repeat (first | refine blk_drewN ?_ _ | refine blk_drew ?_ | refine blk_alloc ?_ _)); refine blk_far ?_ NB1_16.out _; (with_reducible repeat (first | refine blk_drewN ?_ _ | refine blk_drew ?_ | refine blk_alloc ?_ _)); refine blk_far ?_ NB1_16.out _; (with_reducible repeat (first | refine blk_drewN ?_ _ | refine blk_drew ?_ | refine blk_alloc ?_ _)); refine blk_far ?_ NB1_16.out _; (with_reducible repeat (first | refine blk_drewN ?_ _ | refine blk_drew ?_ | refine blk_alloc ?_ _)); refine blk_far ?_ NB1_16.out _; (with_reducible repeat (first | refine blk_drewN ?_ _ | refine blk_drew ?_ | refine blk_alloc ?_ _)); refine blk_far ?_ NB1_16.out _; (with_reducible repeat (first | refine blk_drewN ?_ _ | refine blk_drew ?_ | refine blk_alloc ?_ _)); refine blk_far ?_ NB1_16.out _; (with_reducible repeat (first | refine blk_drewN ?_ _ | refine blk_drew ?_ | refine blk_alloc ?_ _)); exact BK1.out⟩, ⟨by (with_reducible repeat (first | refine blk_drewN ?_ _ | refine blk_drew ?_ | refine blk_alloc ?_ _)); refine blk_put (cs := #[.int .u32 t20, .int .i64 t21, .slice Ao49 t22.length co49, .slice Ao50 t25.length co50, .int .u32 t28, .int .u32 t29, .int .i64 t30, .int .u32 x17007_2]) ?_ 7 _ rfl; (with_reducible repeat (first | refine blk_drewN ?_ _ | refine blk_drew ?_ | refine blk_alloc ?_ _)); refine blk_put (cs := #[.int .u32 t20, .int .i64 t21, .slice Ao49 t22.length co49, .slice Ao50 t25.length co50, .int .u32 t28, .int .u32 t29, .int .i64 x17006_2, .int .u32 x17007_2]) ?_ 6 _ rfl; (with_reducible repeat (first | refine blk_drewN ?_ _ | refine blk_drew ?_ | refine blk_alloc ?_ _)); refine blk_put (cs := #[.int .u32 t20, .int .i64 t21, .slice Ao49 t22.length co49, .slice Ao50 t25.length co50, .int .u32 t28, .int .u32 x17005_2, .int .i64 x17006_2, .int .u32 x17007_2]) ?_ 5 _ rfl; (with_reducible repeat (first | refine blk_drewN ?_ _ | refine blk_drew ?_ | refine blk_alloc ?_ _)); refine blk_put (cs := #[.int .u32 t20, .int .i64 t21, .slice Ao49 t22.length co49, .slice Ao50 t25.length co50, .int .u32 x17004_2, .int .u32 x17005_2, .int .i64 x17006_2, .int .u32 x17007_2]) ?_ 4 _ rfl; (with_reducible repeat (first | refine blk_drewN ?_ _ | refine blk_drew ?_ | refine blk_alloc ?_ _)); refine blk_put (cs := #[.int .u32 t20, .int .i64 t21, .slice Ao49 t22.length co49, .slice Ao46 x17003_2.length co46, .int .u32 x17004_2, .int .u32 x17005_2, .int .i64 x17006_2, .int .u32 x17007_2]) ?_ 3 _ rfl; (with_reducible repeat (first | refine blk_drewN ?_ _ | refine blk_drew ?_ | refine blk_alloc ?_ _)); refine blk_put (cs := #[.int .u32 t20, .int .i64 t21, .slice Ao45 x17002_2.length co45, .slice Ao46 x17003_2.length co46, .int .u32 x17004_2, .int .u32 x17005_2, .int .i64 x17006_2, .int .u32 x17007_2]) ?_ 2 _ rfl; (with_reducible repeat (first | refine blk_drewN ?_ _ | refine blk_drew ?_ | refine blk_alloc ?_ _)); refine blk_put (cs := #[.int .u32 t20, .int .i64 x17001_2, .slice Ao45 x17002_2.length co45, .slice Ao46 x17003_2.length co46, .int .u32 x17004_2, .int .u32 x17005_2, .int .i64 x17006_2, .int .u32 x17007_2]) ?_ 1 _ rfl; (with_reducible repeat (first | refine blk_drewN ?_ _ | refine blk_drew ?_ | refine blk_alloc ?_ _)); refine blk_put (cs := #[.int .u32 x17000_2, .int .i64 x17001_2, .slice Ao45 x17002_2.length co45, .slice Ao46 x17003_2.length co46, .int .u32 x17004_2, .int .u32 x17005_2, .int .i64 x17006_2, .int .u32 x17007_2]) ?_ 0 _ rfl; (with_reducible repeat (first | refine blk_drewN ?_ _ | refine blk_drew ?_ | refine blk_alloc ?_ _)); exact BK16.out⟩, ⟨hbW HB⟩⟩
         ·
          rw [if_neg c23] at H
          exact absurd H (by simp)
        ·
         rw [if_neg c22] at H
         exact absurd H (by simp)
       ·
        rw [if_neg c21] at H
        have c21b0 : decide (x22_2 < (l0.length : Int)) = false := decide_eq_false c21
        clear c21
        replace H := Option.bind_eq_some_iff.mp H
        obtain ⟨⟨t32, t33, t34, t37, t40, t41, t42, t43⟩, A510, H⟩ := H
        replace H : ((q21z.f k2 l0 a1_0 a1_1 l1_2 l1_3 a1_4 a1_5 a1_6 a1_7).bind fun bt45 => ((q12z.f k2 t32 t33 t34 t37 t40 t41 t42 t43 bt45.1 bt45.2.1 bt45.2.2.1 bt45.2.2.2.1 bt45.2.2.2.2.1 bt45.2.2.2.2.2.1 bt45.2.2.2.2.2.2.1 bt45.2.2.2.2.2.2.2).bind fun t57 => (if t57 = 0 then ((q12z.f k2 x17000_2 x17001_2 x17002_2 x17003_2 x17004_2 x17005_2 x17006_2 x17007_2 t32 t33 t34 t37 t40 t41 t42 t43).bind fun t58 => (some (t58 == 0))) else (some false)))) = some r := H
        have A51 := Aside0.mk A510
        clear A510
        replace H := Option.bind_eq_some_iff.mp H
        obtain ⟨⟨t45, t46, t47, t50, t53, t54, t55, t56⟩, A520, H⟩ := H
        replace H : ((q12z.f k2 t32 t33 t34 t37 t40 t41 t42 t43 t45 t46 t47 t50 t53 t54 t55 t56).bind fun t57 => (if t57 = 0 then ((q12z.f k2 x17000_2 x17001_2 x17002_2 x17003_2 x17004_2 x17005_2 x17006_2 x17007_2 t32 t33 t34 t37 t40 t41 t42 t43).bind fun t58 => (some (t58 == 0))) else (some false))) = some r := H
        have A52 := Aside0.mk A520
        clear A520
        replace H := Option.bind_eq_some_iff.mp H
        obtain ⟨t57, A530, H⟩ := H
        replace H : (if t57 = 0 then ((q12z.f k2 x17000_2 x17001_2 x17002_2 x17003_2 x17004_2 x17005_2 x17006_2 x17007_2 t32 t33 t34 t37 t40 t41 t42 t43).bind fun t58 => (some (t58 == 0))) else (some false)) = some r := H
        have A53 := Aside0.mk A530
        clear A530
        by_cases c54 : t57 = 0
        ·
         rw [if_pos c54] at H
         have c54b0 : (t57 == 0) = true := beq_iff_eq.mpr c54
         have c54b1 : (t57 != 0) = false := bne_eq_false_iff_eq.mpr c54
         clear c54
         replace H := Option.bind_eq_some_iff.mp H
         obtain ⟨t58, A550, H⟩ := H
         replace H : (some (t58 == 0)) = some r := H
         have A55 := Aside0.mk A550
         clear A550
         obtain rfl := Option.some.inj H
         have hnb56 := NB1_16.out
         have hnc56 := NB16_1.out
         have hcz57_0 : wr.cell? ⟨gb1, 0, none⟩ = some (.int .u32 a1_0) := (blk_cell BK1.out 0).trans rfl
         have hcz57_1 : wr.cell? ⟨gb1, 1, none⟩ = some (.int .i64 a1_1) := (blk_cell BK1.out 1).trans rfl
         have hcz57_2 : wr.cell? ⟨gb1, 2, none⟩ = some (.slice A1_2 l1_2.length c1_2) := (blk_cell BK1.out 2).trans rfl
         have hcz57_3 : wr.cell? ⟨gb1, 3, none⟩ = some (.slice A1_3 l1_3.length c1_3) := (blk_cell BK1.out 3).trans rfl
         have hcz57_4 : wr.cell? ⟨gb1, 4, none⟩ = some (.int .u32 a1_4) := (blk_cell BK1.out 4).trans rfl
         have hcz57_5 : wr.cell? ⟨gb1, 5, none⟩ = some (.int .u32 a1_5) := (blk_cell BK1.out 5).trans rfl
         have hcz57_6 : wr.cell? ⟨gb1, 6, none⟩ = some (.int .i64 a1_6) := (blk_cell BK1.out 6).trans rfl
         have hcz57_7 : wr.cell? ⟨gb1, 7, none⟩ = some (.int .u32 a1_7) := (blk_cell BK1.out 7).trans rfl
         have hfz57_0 := blk_frozen BK1.out 0
         have hfz57_1 := blk_frozen BK1.out 1
         have hfz57_2 := blk_frozen BK1.out 2
         have hfz57_3 := blk_frozen BK1.out 3
         have hfz57_4 := blk_frozen BK1.out 4
         have hfz57_5 := blk_frozen BK1.out 5
         have hfz57_6 := blk_frozen BK1.out 6
         have hfz57_7 := blk_frozen BK1.out 7
         try go_wp2_with (first | ((with_reducible refine gate_callee (f := 22) rfl ?_); refine goesL_ (some 40) rfl rfl Try.func22 (by kernel_rfl) rfl #[.slice A0 l0.length c0, .agg #[.int .u32 a1_0, .int .i64 a1_1, .slice A1_2 l1_2.length c1_2, .slice A1_3 l1_3.length c1_3, .int .u32 a1_4, .int .u32 a1_5, .int .i64 a1_6, .int .u32 a1_7]] rfl (by (try simp only [List.map_toArray, List.map_cons, List.map_nil]); first | done | rfl | (simp only [List.length_drop, List.length_take]; rfl)) ?_; (with_reducible refine (q13z.calls k2 _ _ l0 a1_0 a1_1 _ _ l1_2 _ _ l1_3 a1_4 a1_5 a1_6 a1_7 t32 t33 t34 t37 t40 t41 t42 t43 _ ?side1 ?side2 ?side3 ?side4 ?side5 ?side6 A51.out).mono ?_); (case side1 => repeat (first | exact (Kd.C_below HR0.out HB.out) | (with_reducible refine Kd.C_alloc ?_ _) | (with_reducible refine Kd.C_drewN ?_ _) | (with_reducible refine Kd.C_drew ?_))); (case side2 => exact HC0.out); (case side3 => repeat (first | exact (Kd.C_below HR1_2.out HB.out) | (with_reducible refine Kd.C_alloc ?_ _) | (with_reducible refine Kd.C_drewN ?_ _) | (with_reducible refine Kd.C_drew ?_))); (case side4 => exact HC1_2.out); (case side5 => repeat (first | exact (Kd.C_below HR1_3.out HB.out) | (with_reducible refine Kd.C_alloc ?_ _) | (with_reducible refine Kd.C_drewN ?_ _) | (with_reducible refine Kd.C_drew ?_))); (case side6 => exact HC1_3.out); rintro e w58 ⟨v35, v38, rfl, ho0, ho1, hb⟩; refine ⟨_, rfl, ?_⟩; have n0_ := Aside0.mk (Kd.R_mono (Kd.R_told (Kd.R_told (Kd.R_old (rW HO_17002) hb) (Kd.R_base ho0)) (Kd.R_base ho1)) (fun _ h_ => h_.1)); have n1_ := Aside0.mk (Kd.R_mono (Kd.R_told (Kd.R_told (Kd.R_old (rW HO_17003) hb) (Kd.R_base ho0)) (Kd.R_base ho1)) (fun _ h_ => h_.1)); have n2_ := Aside0.mk (Kd.R_lower (Kd.R_new' (Kd.R_new' ho0 (Kd.R_lt (rW HO_17002))) (Kd.R_lt (rW HO_17003))) (below_size (hbW HB))); have n3_ := Aside0.mk (Kd.R_lower (Kd.R_new' (Kd.R_new' ho1 (Kd.R_lt (rW HO_17002))) (Kd.R_lt (rW HO_17003))) (below_size (hbW HB))); have n4_ := bkB BK1 hb; have n5_ := bkB BK16 hb; have n6_ := hbS HB hb; clear HO_17002; clear HO_17003; clear BK1; clear BK16; clear HB; have HO_17002 := n0_; have HO_17003 := n1_; have HO36 := n2_; have HO39 := n3_; have BK1 := n4_; have BK16 := n5_; have HB := n6_; clear n0_ n1_ n2_ n3_ n4_ n5_ n6_; (try clear hb); (try clear hb2); (try clear hk); (try clear hi); (try clear ho0); (try clear ho1)) | ((with_reducible refine gate_dst (N := 8) rfl ?_); refine box_event ?hg (N := 8) ?hd (cs := #[.int .u32 0, .int .i64 0, .slice none 0 0, .slice none 0 0, .int .u32 0, .int .u32 0, .int .i64 0, .int .u32 0]) (t := 30) ?hr ?_; (case hd => rfl); (case hg => rfl); (case hr => first | (go_simp; done) | (go_simp; rfl)); intro gb44 hg w59 hbox hb; have n0_ := Aside0.mk (Kd.R_below (rW HO_17002) hb); have n1_ := Aside0.mk (Kd.R_below (rW HO_17003) hb); have n2_ := Aside0.mk (Kd.R_below (rW HO36) hb); have n3_ := Aside0.mk (Kd.R_below (rW HO39) hb); have n4_ := bkB BK1 hb; have n5_ := bkB BK16 hb; have n6_ := hbS HB hb; have n7_ := Aside0.mk (hbox); have n8_ := Aside0.mk ((by rw [hg]; exact (below_size (hbW HB)) : w.heap.size ≤ gb44)); have n9_ := Aside0.mk ((by rw [hg]; exact (below_size (hbW HB)) : w.heap.size ≤ gb44)); have n10_ := Aside0.mk ((by rw [hg]; exact Nat.ne_of_lt (blk_lt (bkW BK1)) : gb1 ≠ gb44)); have n11_ := Aside0.mk ((by rw [hg]; exact Nat.ne_of_gt (blk_lt (bkW BK1)) : gb44 ≠ gb1)); have n12_ := Aside0.mk ((by rw [hg]; exact Nat.ne_of_lt (blk_lt (bkW BK16)) : gb16 ≠ gb44)); have n13_ := Aside0.mk ((by rw [hg]; exact Nat.ne_of_gt (blk_lt (bkW BK16)) : gb44 ≠ gb16)); clear HO_17002; clear HO_17003; clear HO36; clear HO39; clear BK1; clear BK16; clear HB; have HO_17002 := n0_; have HO_17003 := n1_; have HO36 := n2_; have HO39 := n3_; have BK1 := n4_; have BK16 := n5_; have HB := n6_; have BK44 := n7_; have GW44 := n8_; have GE44 := n9_; have NB1_44 := n10_; have NB44_1 := n11_; have NB16_44 := n12_; have NB44_16 := n13_; clear n0_ n1_ n2_ n3_ n4_ n5_ n6_ n7_ n8_ n9_ n10_ n11_ n12_ n13_; clear hb hbox hg; have hnb60 := NB44_1.out; have hnc60 := NB1_44.out; have hnb61 := NB44_16.out; have hnc61 := NB16_44.out; have hcz62_0 : w59.cell? ⟨gb44, 0, none⟩ = some (.int .u32 0) := (blk_cell BK44.out 0).trans rfl; have hcz62_1 : w59.cell? ⟨gb44, 1, none⟩ = some (.int .i64 0) := (blk_cell BK44.out 1).trans rfl; have hcz62_2 : w59.cell? ⟨gb44, 2, none⟩ = some (.slice none 0 0) := (blk_cell BK44.out 2).trans rfl; have hcz62_3 : w59.cell? ⟨gb44, 3, none⟩ = some (.slice none 0 0) := (blk_cell BK44.out 3).trans rfl; have hcz62_4 : w59.cell? ⟨gb44, 4, none⟩ = some (.int .u32 0) := (blk_cell BK44.out 4).trans rfl; have hcz62_5 : w59.cell? ⟨gb44, 5, none⟩ = some (.int .u32 0) := (blk_cell BK44.out 5).trans rfl; have hcz62_6 : w59.cell? ⟨gb44, 6, none⟩ = some (.int .i64 0) := (blk_cell BK44.out 6).trans rfl; have hcz62_7 : w59.cell? ⟨gb44, 7, none⟩ = some (.int .u32 0) := (blk_cell BK44.out 7).trans rfl; have hfz62_0 := blk_frozen BK44.out 0; have hfz62_1 := blk_frozen BK44.out 1; have hfz62_2 := blk_frozen BK44.out 2; have hfz62_3 := blk_frozen BK44.out 3; have hfz62_4 := blk_frozen BK44.out 4; have hfz62_5 := blk_frozen BK44.out 5; have hfz62_6 := blk_frozen BK44.out 6; have hfz62_7 := blk_frozen BK44.out 7; obtain ⟨Ao63, co63, eo63⟩ := Kd.R_slice HO36.out; subst eo63; obtain ⟨Ao64, co64, eo64⟩ := Kd.R_slice HO39.out; subst eo64))
         have n0_ : Aside0 (Kd.R (Kd.int .u32) 22 ((((((((w59.setCell ⟨gb44, 0, none⟩ (.int .u32 t32)).setCell ⟨gb44, 1, none⟩ (.int .i64 t33)).setCell ⟨gb44, 2, none⟩ (.slice Ao63 t34.length co63)).setCell ⟨gb44, 3, none⟩ (.slice Ao64 t37.length co64)).setCell ⟨gb44, 4, none⟩ (.int .u32 t40)).setCell ⟨gb44, 5, none⟩ (.int .u32 t41)).setCell ⟨gb44, 6, none⟩ (.int .i64 t42)).setCell ⟨gb44, 7, none⟩ (.int .u32 t43)) w.heap.size (fun k_ => some k_ ≠ (u17003 : Value).ownBlock ∧ some k_ ≠ (.slice Ao63 t34.length co63 : Value).ownBlock ∧ some k_ ≠ (.slice Ao64 t37.length co64 : Value).ownBlock) u17002 x17002_2) := ⟨by (with_reducible repeat (first | apply Kd.R_alloc | apply Kd.R_drewN | apply Kd.R_drew)); exact Kd.R_mono (Kd.R_far (p := ⟨gb44, 7, none⟩) (Kd.R_far (p := ⟨gb44, 6, none⟩) (Kd.R_far (p := ⟨gb44, 5, none⟩) (Kd.R_far (p := ⟨gb44, 4, none⟩) (Kd.R_far (p := ⟨gb44, 3, none⟩) (Kd.R_far (p := ⟨gb44, 2, none⟩) (Kd.R_far (p := ⟨gb44, 1, none⟩) (Kd.R_far (p := ⟨gb44, 0, none⟩) (Kd.R_types HO_17002.out BK44.out (by decide)) (fun _ hk => hk.2) (.int .u32 t32)) (fun _ hk => hk.2) (.int .i64 t33)) (fun _ hk => hk.2) (.slice Ao63 t34.length co63)) (fun _ hk => hk.2) (.slice Ao64 t37.length co64)) (fun _ hk => hk.2) (.int .u32 t40)) (fun _ hk => hk.2) (.int .u32 t41)) (fun _ hk => hk.2) (.int .i64 t42)) (fun _ hk => hk.2) (.int .u32 t43)) (fun _ hk => ⟨hk.1.1.1, ⟨hk.1.1.2, hk.1.2⟩⟩)⟩
         have n1_ : Aside0 (Kd.R (Kd.int .u32) 22 ((((((((w59.setCell ⟨gb44, 0, none⟩ (.int .u32 t32)).setCell ⟨gb44, 1, none⟩ (.int .i64 t33)).setCell ⟨gb44, 2, none⟩ (.slice Ao63 t34.length co63)).setCell ⟨gb44, 3, none⟩ (.slice Ao64 t37.length co64)).setCell ⟨gb44, 4, none⟩ (.int .u32 t40)).setCell ⟨gb44, 5, none⟩ (.int .u32 t41)).setCell ⟨gb44, 6, none⟩ (.int .i64 t42)).setCell ⟨gb44, 7, none⟩ (.int .u32 t43)) w.heap.size (fun k_ => some k_ ≠ (u17002 : Value).ownBlock ∧ some k_ ≠ (.slice Ao63 t34.length co63 : Value).ownBlock ∧ some k_ ≠ (.slice Ao64 t37.length co64 : Value).ownBlock) u17003 x17003_2) := ⟨by (with_reducible repeat (first | apply Kd.R_alloc | apply Kd.R_drewN | apply Kd.R_drew)); exact Kd.R_mono (Kd.R_far (p := ⟨gb44, 7, none⟩) (Kd.R_far (p := ⟨gb44, 6, none⟩) (Kd.R_far (p := ⟨gb44, 5, none⟩) (Kd.R_far (p := ⟨gb44, 4, none⟩) (Kd.R_far (p := ⟨gb44, 3, none⟩) (Kd.R_far (p := ⟨gb44, 2, none⟩) (Kd.R_far (p := ⟨gb44, 1, none⟩) (Kd.R_far (p := ⟨gb44, 0, none⟩) (Kd.R_types HO_17003.out BK44.out (by decide)) (fun _ hk => hk.2) (.int .u32 t32)) (fun _ hk => hk.2) (.int .i64 t33)) (fun _ hk => hk.2) (.slice Ao63 t34.length co63)) (fun _ hk => hk.2) (.slice Ao64 t37.length co64)) (fun _ hk => hk.2) (.int .u32 t40)) (fun _ hk => hk.2) (.int .u32 t41)) (fun _ hk => hk.2) (.int .i64 t42)) (fun _ hk => hk.2) (.int .u32 t43)) (fun _ hk => ⟨hk.1.1.1, ⟨hk.1.1.2, hk.1.2⟩⟩)⟩
         have n2_ : Aside0 (Kd.R (Kd.int .u32) 22 ((((((((w59.setCell ⟨gb44, 0, none⟩ (.int .u32 t32)).setCell ⟨gb44, 1, none⟩ (.int .i64 t33)).setCell ⟨gb44, 2, none⟩ (.slice Ao63 t34.length co63)).setCell ⟨gb44, 3, none⟩ (.slice Ao64 t37.length co64)).setCell ⟨gb44, 4, none⟩ (.int .u32 t40)).setCell ⟨gb44, 5, none⟩ (.int .u32 t41)).setCell ⟨gb44, 6, none⟩ (.int .i64 t42)).setCell ⟨gb44, 7, none⟩ (.int .u32 t43)) w.heap.size (fun k_ => some k_ ≠ (u17002 : Value).ownBlock ∧ some k_ ≠ (u17003 : Value).ownBlock ∧ some k_ ≠ (.slice Ao64 t37.length co64 : Value).ownBlock) (.slice Ao63 t34.length co63) t34) := ⟨by (with_reducible repeat (first | apply Kd.R_alloc | apply Kd.R_drewN | apply Kd.R_drew)); exact Kd.R_mono (Kd.R_far (p := ⟨gb44, 7, none⟩) (Kd.R_far (p := ⟨gb44, 6, none⟩) (Kd.R_far (p := ⟨gb44, 5, none⟩) (Kd.R_far (p := ⟨gb44, 4, none⟩) (Kd.R_far (p := ⟨gb44, 3, none⟩) (Kd.R_far (p := ⟨gb44, 2, none⟩) (Kd.R_far (p := ⟨gb44, 1, none⟩) (Kd.R_far (p := ⟨gb44, 0, none⟩) (Kd.R_types HO36.out BK44.out (by decide)) (fun _ hk => hk.2) (.int .u32 t32)) (fun _ hk => hk.2) (.int .i64 t33)) (fun _ hk => hk.2) (.slice Ao63 t34.length co63)) (fun _ hk => hk.2) (.slice Ao64 t37.length co64)) (fun _ hk => hk.2) (.int .u32 t40)) (fun _ hk => hk.2) (.int .u32 t41)) (fun _ hk => hk.2) (.int .i64 t42)) (fun _ hk => hk.2) (.int .u32 t43)) (fun _ hk => ⟨hk.1.1.2, ⟨hk.1.2, hk.1.1.1⟩⟩)⟩
         have n3_ : Aside0 (Kd.R (Kd.int .u32) 22 ((((((((w59.setCell ⟨gb44, 0, none⟩ (.int .u32 t32)).setCell ⟨gb44, 1, none⟩ (.int .i64 t33)).setCell ⟨gb44, 2, none⟩ (.slice Ao63 t34.length co63)).setCell ⟨gb44, 3, none⟩ (.slice Ao64 t37.length co64)).setCell ⟨gb44, 4, none⟩ (.int .u32 t40)).setCell ⟨gb44, 5, none⟩ (.int .u32 t41)).setCell ⟨gb44, 6, none⟩ (.int .i64 t42)).setCell ⟨gb44, 7, none⟩ (.int .u32 t43)) w.heap.size (fun k_ => some k_ ≠ (u17002 : Value).ownBlock ∧ some k_ ≠ (u17003 : Value).ownBlock ∧ some k_ ≠ (.slice Ao63 t34.length co63 : Value).ownBlock) (.slice Ao64 t37.length co64) t37) := ⟨by (with_reducible repeat (first | apply Kd.R_alloc | apply Kd.R_drewN | apply Kd.R_drew)); exact Kd.R_mono (Kd.R_far (p := ⟨gb44, 7, none⟩) (Kd.R_far (p := ⟨gb44, 6, none⟩) (Kd.R_far (p := ⟨gb44, 5, none⟩) (Kd.R_far (p := ⟨gb44, 4, none⟩) (Kd.R_far (p := ⟨gb44, 3, none⟩) (Kd.R_far (p := ⟨gb44, 2, none⟩) (Kd.R_far (p := ⟨gb44, 1, none⟩) (Kd.R_far (p := ⟨gb44, 0, none⟩) (Kd.R_types HO39.out BK44.out (by decide)) (fun _ hk => hk.2) (.int .u32 t32)) (fun _ hk => hk.2) (.int .i64 t33)) (fun _ hk => hk.2) (.slice Ao63 t34.length co63)) (fun _ hk => hk.2) (.slice Ao64 t37.length co64)) (fun _ hk => hk.2) (.int .u32 t40)) (fun _ hk => hk.2) (.int .u32 t41)) (fun _ hk => hk.2) (.int .i64 t42)) (fun _ hk => hk.2) (.int .u32 t43)) (fun _ hk => ⟨hk.1.1.2, ⟨hk.1.2, hk.1.1.1⟩⟩)⟩
         have n4_ : Aside0 (((((((((w59.setCell ⟨gb44, 0, none⟩ (.int .u32 t32)).setCell ⟨gb44, 1, none⟩ (.int .i64 t33)).setCell ⟨gb44, 2, none⟩ (.slice Ao63 t34.length co63)).setCell ⟨gb44, 3, none⟩ (.slice Ao64 t37.length co64)).setCell ⟨gb44, 4, none⟩ (.int .u32 t40)).setCell ⟨gb44, 5, none⟩ (.int .u32 t41)).setCell ⟨gb44, 6, none⟩ (.int .i64 t42)).setCell ⟨gb44, 7, none⟩ (.int .u32 t43)).heap[gb1]? = some (.cells #[.int .u32 a1_0, .int .i64 a1_1, .slice A1_2 l1_2.length c1_2, .slice A1_3 l1_3.length c1_3, .int .u32 a1_4, .int .u32 a1_5, .int .i64 a1_6, .int .u32 a1_7] 30 (0, 0))) := ⟨by (with_reducible repeat (first | refine blk_drewN ?_ _ | refine blk_drew ?_ | refine blk_alloc ?_ _)); refine blk_far ?_ NB1_44.out _; (with_reducible repeat (first | refine blk_drewN ?_ _ | refine blk_drew ?_ | refine blk_alloc ?_ _)); refine blk_far ?_ NB1_44.out _; (with_reducible repeat (first | refine blk_drewN ?_ _ | refine blk_drew ?_ | refine blk_alloc ?_ _)); refine blk_far ?_ NB1_44.out _; (with_reducible repeat (first | refine blk_drewN ?_ _ | refine blk_drew ?_ | refine blk_alloc ?_ _)); refine blk_far ?_ NB1_44.out _; (with_reducible repeat (first | refine blk_drewN ?_ _ | refine blk_drew ?_ | refine blk_alloc ?_ _)); refine blk_far ?_ NB1_44.out _; (with_reducible repeat (first | refine blk_drewN ?_ _ | refine blk_drew ?_ | refine blk_alloc ?_ _)); refine blk_far ?_ NB1_44.out _; (with_reducible repeat (first | refine blk_drewN ?_ _ | refine blk_drew ?_ | refine blk_alloc ?_ _)); refine blk_far ?_ NB1_44.out _; (with_reducible repeat (first | refine blk_drewN ?_ _ | refine blk_drew ?_ | refine blk_alloc ?_ _)); refine blk_far ?_ NB1_44.out _; (with_reducible repeat (first | refine blk_drewN ?_ _ | refine blk_drew ?_ | refine blk_alloc ?_ _)); exact BK1.out⟩
         have n5_ : Aside0 (((((((((w59.setCell ⟨gb44, 0, none⟩ (.int .u32 t32)).setCell ⟨gb44, 1, none⟩ (.int .i64 t33)).setCell ⟨gb44, 2, none⟩ (.slice Ao63 t34.length co63)).setCell ⟨gb44, 3, none⟩ (.slice Ao64 t37.length co64)).setCell ⟨gb44, 4, none⟩ (.int .u32 t40)).setCell ⟨gb44, 5, none⟩ (.int .u32 t41)).setCell ⟨gb44, 6, none⟩ (.int .i64 t42)).setCell ⟨gb44, 7, none⟩ (.int .u32 t43)).heap[gb16]? = some (.cells #[.int .u32 x17000_2, .int .i64 x17001_2, u17002, u17003, .int .u32 x17004_2, .int .u32 x17005_2, .int .i64 x17006_2, .int .u32 x17007_2] 30 (0, 0))) := ⟨by (with_reducible repeat (first | refine blk_drewN ?_ _ | refine blk_drew ?_ | refine blk_alloc ?_ _)); refine blk_far ?_ NB16_44.out _; (with_reducible repeat (first | refine blk_drewN ?_ _ | refine blk_drew ?_ | refine blk_alloc ?_ _)); refine blk_far ?_ NB16_44.out _; (with_reducible repeat (first | refine blk_drewN ?_ _ | refine blk_drew ?_ | refine blk_alloc ?_ _)); refine blk_far ?_ NB16_44.out _; (with_reducible repeat (first | refine blk_drewN ?_ _ | refine blk_drew ?_ | refine blk_alloc ?_ _)); refine blk_far ?_ NB16_44.out _; (with_reducible repeat (first | refine blk_drewN ?_ _ | refine blk_drew ?_ | refine blk_alloc ?_ _)); refine blk_far ?_ NB16_44.out _; (with_reducible repeat (first | refine blk_drewN ?_ _ | refine blk_drew ?_ | refine blk_alloc ?_ _)); refine blk_far ?_ NB16_44.out _; (with_reducible repeat (first | refine blk_drewN ?_ _ | refine blk_drew ?_ | refine blk_alloc ?_ _)); refine blk_far ?_ NB16_44.out _; (with_reducible repeat (first | refine blk_drewN ?_ _ | refine blk_drew ?_ | refine blk_alloc ?_ _)); refine blk_far ?_ NB16_44.out _; (with_reducible repeat (first | refine blk_drewN ?_ _ | refine blk_drew ?_ | refine blk_alloc ?_ _)); exact BK16.out⟩
         have n6_ : Aside0 (((((((((w59.setCell ⟨gb44, 0, none⟩ (.int .u32 t32)).setCell ⟨gb44, 1, none⟩ (.int .i64 t33)).setCell ⟨gb44, 2, none⟩ (.slice Ao63 t34.length co63)).setCell ⟨gb44, 3, none⟩ (.slice Ao64 t37.length co64)).setCell ⟨gb44, 4, none⟩ (.int .u32 t40)).setCell ⟨gb44, 5, none⟩ (.int .u32 t41)).setCell ⟨gb44, 6, none⟩ (.int .i64 t42)).setCell ⟨gb44, 7, none⟩ (.int .u32 t43)).heap[gb44]? = some (.cells #[.int .u32 t32, .int .i64 t33, .slice Ao63 t34.length co63, .slice Ao64 t37.length co64, .int .u32 t40, .int .u32 t41, .int .i64 t42, .int .u32 t43] 30 (0, 0))) := ⟨by (with_reducible repeat (first | refine blk_drewN ?_ _ | refine blk_drew ?_ | refine blk_alloc ?_ _)); refine blk_put (cs := #[.int .u32 t32, .int .i64 t33, .slice Ao63 t34.length co63, .slice Ao64 t37.length co64, .int .u32 t40, .int .u32 t41, .int .i64 t42, .int .u32 0]) ?_ 7 _ rfl; (with_reducible repeat (first | refine blk_drewN ?_ _ | refine blk_drew ?_ | refine blk_alloc ?_ _)); refine blk_put (cs := #[.int .u32 t32, .int .i64 t33, .slice Ao63 t34.length co63, .slice Ao64 t37.length co64, .int .u32 t40, .int .u32 t41, .int .i64 0, .int .u32 0]) ?_ 6 _ rfl; (with_reducible repeat (first | refine blk_drewN ?_ _ | refine blk_drew ?_ | refine blk_alloc ?_ _)); refine blk_put (cs := #[.int .u32 t32, .int .i64 t33, .slice Ao63 t34.length co63, .slice Ao64 t37.length co64, .int .u32 t40, .int .u32 0, .int .i64 0, .int .u32 0]) ?_ 5 _ rfl; (with_reducible repeat (first | refine blk_drewN ?_ _ | refine blk_drew ?_ | refine blk_alloc ?_ _)); refine blk_put (cs := #[.int .u32 t32, .int .i64 t33, .slice Ao63 t34.length co63, .slice Ao64 t37.length co64, .int .u32 0, .int .u32 0, .int .i64 0, .int .u32 0]) ?_ 4 _ rfl; (with_reducible repeat (first | refine blk_drewN ?_ _ | refine blk_drew ?_ | refine blk_alloc ?_ _)); refine blk_put (cs := #[.int .u32 t32, .int .i64 t33, .slice Ao63 t34.length co63, .slice none 0 0, .int .u32 0, .int .u32 0, .int .i64 0, .int .u32 0]) ?_ 3 _ rfl; (with_reducible repeat (first | refine blk_drewN ?_ _ | refine blk_drew ?_ | refine blk_alloc ?_ _)); refine blk_put (cs := #[.int .u32 t32, .int .i64 t33, .slice none 0 0, .slice none 0 0, .int .u32 0, .int .u32 0, .int .i64 0, .int .u32 0]) ?_ 2 _ rfl; (with_reducible repeat (first | refine blk_drewN ?_ _ | refine blk_drew ?_ | refine blk_alloc ?_ _)); refine blk_put (cs := #[.int .u32 t32, .int .i64 0, .slice none 0 0, .slice none 0 0, .int .u32 0, .int .u32 0, .int .i64 0, .int .u32 0]) ?_ 1 _ rfl; (with_reducible repeat (first | refine blk_drewN ?_ _ | refine blk_drew ?_ | refine blk_alloc ?_ _)); refine blk_put (cs := #[.int .u32 0, .int .i64 0, .slice none 0 0, .slice none 0 0, .int .u32 0, .int .u32 0, .int .i64 0, .int .u32 0]) ?_ 0 _ rfl; (with_reducible repeat (first | refine blk_drewN ?_ _ | refine blk_drew ?_ | refine blk_alloc ?_ _)); exact BK44.out⟩
         have n7_ : Aside0 (Below w.heap.size w ((((((((w59.setCell ⟨gb44, 0, none⟩ (.int .u32 t32)).setCell ⟨gb44, 1, none⟩ (.int .i64 t33)).setCell ⟨gb44, 2, none⟩ (.slice Ao63 t34.length co63)).setCell ⟨gb44, 3, none⟩ (.slice Ao64 t37.length co64)).setCell ⟨gb44, 4, none⟩ (.int .u32 t40)).setCell ⟨gb44, 5, none⟩ (.int .u32 t41)).setCell ⟨gb44, 6, none⟩ (.int .i64 t42)).setCell ⟨gb44, 7, none⟩ (.int .u32 t43))) := ⟨hbW HB⟩
         (try clear HO_17002)
         (try clear HO_17003)
         (try clear HO36)
         (try clear HO39)
         (try clear BK1)
         (try clear BK16)
         (try clear BK44)
         (try clear HB)
         generalize ((((((((w59.setCell ⟨gb44, 0, none⟩ (.int .u32 t32)).setCell ⟨gb44, 1, none⟩ (.int .i64 t33)).setCell ⟨gb44, 2, none⟩ (.slice Ao63 t34.length co63)).setCell ⟨gb44, 3, none⟩ (.slice Ao64 t37.length co64)).setCell ⟨gb44, 4, none⟩ (.int .u32 t40)).setCell ⟨gb44, 5, none⟩ (.int .u32 t41)).setCell ⟨gb44, 6, none⟩ (.int .i64 t42)).setCell ⟨gb44, 7, none⟩ (.int .u32 t43)) = w65 at n0_ n1_ n2_ n3_ n4_ n5_ n6_ n7_ ⊢
         have HO_17002 := n0_
         have HO_17003 := n1_
         have HO36 := n2_
         have HO39 := n3_
         have BK1 := n4_
         have BK16 := n5_
         have BK44 := n6_
         have HB := n7_
         clear n0_ n1_ n2_ n3_ n4_ n5_ n6_ n7_
         have n0_ := Aside0.mk (Kd.R_drew HO_17002.out)
         have n1_ := Aside0.mk (Kd.R_drew HO_17003.out)
         have n2_ := Aside0.mk (Kd.R_drew HO36.out)
         have n3_ := Aside0.mk (Kd.R_drew HO39.out)
         have n4_ := Aside0.mk (blk_drew BK1.out)
         have n5_ := Aside0.mk (blk_drew BK16.out)
         have n6_ := Aside0.mk (blk_drew BK44.out)
         have n7_ := Aside0.mk (below_drew1 HB.out)
         clear HO_17002
         clear HO_17003
         clear HO36
         clear HO39
         clear BK1
         clear BK16
         clear BK44
         clear HB
         have HO_17002 := n0_
         have HO_17003 := n1_
         have HO36 := n2_
         have HO39 := n3_
         have BK1 := n4_
         have BK16 := n5_
         have BK44 := n6_
         have HB := n7_
         clear n0_ n1_ n2_ n3_ n4_ n5_ n6_ n7_
         refine start_ (n := 13) (S := fun w' => w'.cell? ⟨gb44, 0, none⟩ = some (.int .u32 t32) ∧ w'.cell? ⟨gb44, 1, none⟩ = some (.int .i64 t33) ∧ w'.cell? ⟨gb44, 2, none⟩ = some (.slice Ao63 t34.length co63) ∧ w'.cell? ⟨gb44, 3, none⟩ = some (.slice Ao64 t37.length co64) ∧ w'.cell? ⟨gb44, 4, none⟩ = some (.int .u32 t40) ∧ w'.cell? ⟨gb44, 5, none⟩ = some (.int .u32 t41) ∧ w'.cell? ⟨gb44, 6, none⟩ = some (.int .i64 t42) ∧ w'.cell? ⟨gb44, 7, none⟩ = some (.int .u32 t43) ∧ w'.cell? ⟨gb1, 0, none⟩ = some (.int .u32 a1_0) ∧ w'.cell? ⟨gb1, 1, none⟩ = some (.int .i64 a1_1) ∧ w'.cell? ⟨gb1, 2, none⟩ = some (.slice A1_2 l1_2.length c1_2) ∧ w'.cell? ⟨gb1, 3, none⟩ = some (.slice A1_3 l1_3.length c1_3) ∧ w'.cell? ⟨gb1, 4, none⟩ = some (.int .u32 a1_4) ∧ w'.cell? ⟨gb1, 5, none⟩ = some (.int .u32 a1_5) ∧ w'.cell? ⟨gb1, 6, none⟩ = some (.int .i64 a1_6) ∧ w'.cell? ⟨gb1, 7, none⟩ = some (.int .u32 a1_7) ∧ w'.cell? ⟨gb16, 0, none⟩ = some (.int .u32 x17000_2) ∧ w'.cell? ⟨gb16, 1, none⟩ = some (.int .i64 x17001_2) ∧ w'.cell? ⟨gb16, 2, none⟩ = some (u17002) ∧ w'.cell? ⟨gb16, 3, none⟩ = some (u17003) ∧ w'.cell? ⟨gb16, 4, none⟩ = some (.int .u32 x17004_2) ∧ w'.cell? ⟨gb16, 5, none⟩ = some (.int .u32 x17005_2) ∧ w'.cell? ⟨gb16, 6, none⟩ = some (.int .i64 x17006_2) ∧ w'.cell? ⟨gb16, 7, none⟩ = some (.int .u32 x17007_2)) (ds := []) #[false, false, false, false, false, false, false, false, false, false, false, false, false] (by kernel_rfl) rfl rfl ⟨(blk_cell BK44.out 0).trans rfl, (blk_cell BK44.out 1).trans rfl, (blk_cell BK44.out 2).trans rfl, (blk_cell BK44.out 3).trans rfl, (blk_cell BK44.out 4).trans rfl, (blk_cell BK44.out 5).trans rfl, (blk_cell BK44.out 6).trans rfl, (blk_cell BK44.out 7).trans rfl, (blk_cell BK1.out 0).trans rfl, (blk_cell BK1.out 1).trans rfl, (blk_cell BK1.out 2).trans rfl, (blk_cell BK1.out 3).trans rfl, (blk_cell BK1.out 4).trans rfl, (blk_cell BK1.out 5).trans rfl, (blk_cell BK1.out 6).trans rfl, (blk_cell BK1.out 7).trans rfl, (blk_cell BK16.out 0).trans rfl, (blk_cell BK16.out 1).trans rfl, (blk_cell BK16.out 2).trans rfl, (blk_cell BK16.out 3).trans rfl, (blk_cell BK16.out 4).trans rfl, (blk_cell BK16.out 5).trans rfl, (blk_cell BK16.out 6).trans rfl, (blk_cell BK16.out 7).trans rfl⟩ (fun hHeld => ?_); refine with_tabW q27z.tab14 q27z.bits14 (fun HT_ HW_ => ?_)
         generalize w65.drew = w66 at HO_17002 HO_17003 HO36 HO39 BK1 BK16 BK44 HB hHeld ⊢
         refine pure_ (i := 1) (N := some 42) (v := ?_) (a' := ?_) #[false, true, false, false, false, false, false, false, false, false, false, false, false] rfl rfl (any_of HT_.out (by kernel_rfl)) (fun _ _ _ h => h) (Or.inl ⟨by rfl, ?_⟩) ?_ ?_
         rotate_left
         ·
          intro w'
          go_simp
          with_reducible rfl
         rotate_left
         ·
          simp only [Act.put, List.setIfInBounds_toArray, List.set_cons_zero, List.set_cons_succ, i64_w, i32_w, IntKind.wrap_u32]
          rfl
         refine take_ (i := 0) (N := some 41) (v := ?_) (a' := ?_) #[true, true, false, false, false, false, false, false, false, false, false, false, false] rfl rfl (take_ofW HT_.out HW_.out (by kernel_rfl)) (fun _ _ _ h => h) (Or.inl ⟨by rfl, ?_⟩) hHeld ?_ ?_
         rotate_left
         ·
          rintro w' ⟨s0, s1, s2, s3, s4, s5, s6, s7, s8, s9, s10, s11, s12, s13, s14, s15, s16, s17, s18, s19, s20, s21, s22, s23⟩
          go_simp
          with_reducible rfl
         rotate_left
         ·
          simp only [Act.put, List.setIfInBounds_toArray, List.set_cons_zero, List.set_cons_succ, i64_w, i32_w, IntKind.wrap_u32]
          rfl
         refine take_ (i := 2) (N := some 43) (v := ?_) (a' := ?_) #[true, true, true, false, false, false, false, false, false, false, false, false, false] rfl rfl (take_ofW HT_.out HW_.out (by kernel_rfl)) (fun _ _ _ h => h) (Or.inl ⟨by rfl, ?_⟩) hHeld ?_ ?_
         rotate_left
         ·
          rintro w' ⟨s0, s1, s2, s3, s4, s5, s6, s7, s8, s9, s10, s11, s12, s13, s14, s15, s16, s17, s18, s19, s20, s21, s22, s23⟩
          go_simp
          with_reducible rfl
         rotate_left
         ·
          simp only [Act.put, List.setIfInBounds_toArray, List.set_cons_zero, List.set_cons_succ, i64_w, i32_w, IntKind.wrap_u32]
          rfl
         refine one_ (i := 3) (N := some 44) #[true, true, true, true, false, false, false, false, false, false, false, false, false] rfl rfl (one_of HT_.out (by kernel_rfl)) (by decide) (fun K hK => ?_)
         refine goes_ Try.func23 (by kernel_rfl) rfl #[.slice A0 l0.length c0, .agg #[.int .u32 a1_0, .int .i64 a1_1, .slice A1_2 l1_2.length c1_2, .slice A1_3 l1_3.length c1_3, .int .u32 a1_4, .int .u32 a1_5, .int .i64 a1_6, .int .u32 a1_7]] (by rfl) rfl rfl (by (try simp only [List.map_toArray, List.map_cons, List.map_nil]); first | done | rfl | (simp only [List.length_drop, List.length_take]; rfl)) ?_
         with_reducible refine (q21z.calls k2 _ _ l0 a1_0 a1_1 _ _ l1_2 _ _ l1_3 a1_4 a1_5 a1_6 a1_7 t45 t46 t47 t50 t53 t54 t55 t56 _ ?side1 ?side2 ?side3 ?side4 ?side5 ?side6 A52.out).mono ?_
         (case side1 => repeat (first | exact (Kd.C_below HR0.out HB.out) | (with_reducible refine Kd.C_alloc ?_ _) | (with_reducible refine Kd.C_drewN ?_ _) | (with_reducible refine Kd.C_drew ?_)))
         (case side2 => exact HC0.out)
         (case side3 => repeat (first | exact (Kd.C_below HR1_2.out HB.out) | (with_reducible refine Kd.C_alloc ?_ _) | (with_reducible refine Kd.C_drewN ?_ _) | (with_reducible refine Kd.C_drew ?_)))
         (case side4 => exact HC1_2.out)
         (case side5 => repeat (first | exact (Kd.C_below HR1_3.out HB.out) | (with_reducible refine Kd.C_alloc ?_ _) | (with_reducible refine Kd.C_drewN ?_ _) | (with_reducible refine Kd.C_drew ?_)))
         (case side6 => exact HC1_3.out)
         rintro e w67 ⟨v48, v51, rfl, ho0, ho1, hb⟩
         refine ⟨_, rfl, ?_⟩
         have n0_ := Aside0.mk (Kd.R_mono (Kd.R_told (Kd.R_told (Kd.R_old (rW HO_17002) hb) (Kd.R_base ho0)) (Kd.R_base ho1)) (fun _ h_ => h_.1))
         have n1_ := Aside0.mk (Kd.R_mono (Kd.R_told (Kd.R_told (Kd.R_old (rW HO_17003) hb) (Kd.R_base ho0)) (Kd.R_base ho1)) (fun _ h_ => h_.1))
         have n2_ := Aside0.mk (Kd.R_mono (Kd.R_told (Kd.R_told (Kd.R_old (rW HO36) hb) (Kd.R_base ho0)) (Kd.R_base ho1)) (fun _ h_ => h_.1))
         have n3_ := Aside0.mk (Kd.R_mono (Kd.R_told (Kd.R_told (Kd.R_old (rW HO39) hb) (Kd.R_base ho0)) (Kd.R_base ho1)) (fun _ h_ => h_.1))
         have n4_ := Aside0.mk (Kd.R_lower (Kd.R_new' (Kd.R_new' (Kd.R_new' (Kd.R_new' ho0 (Kd.R_lt (rW HO_17002))) (Kd.R_lt (rW HO_17003))) (Kd.R_lt (rW HO36))) (Kd.R_lt (rW HO39))) (below_size (hbW HB)))
         have n5_ := Aside0.mk (Kd.R_lower (Kd.R_new' (Kd.R_new' (Kd.R_new' (Kd.R_new' ho1 (Kd.R_lt (rW HO_17002))) (Kd.R_lt (rW HO_17003))) (Kd.R_lt (rW HO36))) (Kd.R_lt (rW HO39))) (below_size (hbW HB)))
         have n6_ := bkB BK1 hb
         have n7_ := bkB BK16 hb
         have n8_ := bkB BK44 hb
         have n9_ := hbS HB hb
         clear HO_17002
         clear HO_17003
         clear HO36
         clear HO39
         clear BK1
         clear BK16
         clear BK44
         clear HB
         have HO_17002 := n0_
         have HO_17003 := n1_
         have HO36 := n2_
         have HO39 := n3_
         have HO49 := n4_
         have HO52 := n5_
         have BK1 := n6_
         have BK16 := n7_
         have BK44 := n8_
         have HB := n9_
         clear n0_ n1_ n2_ n3_ n4_ n5_ n6_ n7_ n8_ n9_
         (try clear hb)
         (try clear hb2)
         (try clear hk)
         (try clear hi)
         (try clear ho0)
         (try clear ho1)
         obtain ⟨Ao68, co68, eo68⟩ := Kd.R_slice HO49.out
         (first | subst eo68 | (injection eo68 with f1_ f2_ f3_; have f4_ := f1_.symm; have f5_ := f3_.symm; clear f1_ f2_ f3_; subst f4_; subst f5_))
         obtain ⟨Ao69, co69, eo69⟩ := Kd.R_slice HO52.out
         (first | subst eo69 | (injection eo69 with f1_ f2_ f3_; have f4_ := f1_.symm; have f5_ := f3_.symm; clear f1_ f2_ f3_; subst f4_; subst f5_))
         refine hK.out _ _ ⟨(blk_cell BK44.out 0).trans rfl, (blk_cell BK44.out 1).trans rfl, (blk_cell BK44.out 2).trans rfl, (blk_cell BK44.out 3).trans rfl, (blk_cell BK44.out 4).trans rfl, (blk_cell BK44.out 5).trans rfl, (blk_cell BK44.out 6).trans rfl, (blk_cell BK44.out 7).trans rfl, (blk_cell BK1.out 0).trans rfl, (blk_cell BK1.out 1).trans rfl, (blk_cell BK1.out 2).trans rfl, (blk_cell BK1.out 3).trans rfl, (blk_cell BK1.out 4).trans rfl, (blk_cell BK1.out 5).trans rfl, (blk_cell BK1.out 6).trans rfl, (blk_cell BK1.out 7).trans rfl, (blk_cell BK16.out 0).trans rfl, (blk_cell BK16.out 1).trans rfl, (blk_cell BK16.out 2).trans rfl, (blk_cell BK16.out 3).trans rfl, (blk_cell BK16.out 4).trans rfl, (blk_cell BK16.out 5).trans rfl, (blk_cell BK16.out 6).trans rfl, (blk_cell BK16.out 7).trans rfl⟩ (fun hHeld => ?_)
         clear hK K
         refine norm_ (a' := ?_) ?_ ?_
         rotate_left
         ·
          show Act.put _ (some 44) _ = _
          simp only [Act.put, List.setIfInBounds_toArray, List.set_cons_zero, List.set_cons_succ, i64_w, i32_w, IntKind.wrap_u32]
          rfl
         refine one_ (i := 4) (N := some 45) #[true, true, true, true, true, false, false, false, false, false, false, false, false] rfl rfl (one_of HT_.out (by kernel_rfl)) (by decide) (fun K hK => ?_)
         refine goes_ Try.func16 (by kernel_rfl) rfl #[.agg #[.int .u32 t32, .int .i64 t33, .slice Ao63 t34.length co63, .slice Ao64 t37.length co64, .int .u32 t40, .int .u32 t41, .int .i64 t42, .int .u32 t43], .agg #[.int .u32 t45, .int .i64 t46, .slice Ao68 t47.length co68, .slice Ao69 t50.length co69, .int .u32 t53, .int .u32 t54, .int .i64 t55, .int .u32 t56]] (by rfl) rfl rfl (by (try simp only [List.map_toArray, List.map_cons, List.map_nil]); first | done | rfl | (simp only [List.length_drop, List.length_take]; rfl)) ?_
         with_reducible refine (q12z.calls k2 t32 t33 _ _ t34 _ _ t37 t40 t41 t42 t43 t45 t46 _ _ t47 _ _ t50 t53 t54 t55 t56 t57 _ ?side1 ?side2 ?side3 ?side4 ?side5 ?side6 ?side7 ?side8 A53.out).mono ?_
         (case side1 => repeat (first | exact (Kd.R_reads' HO36.out).2.2 | (with_reducible refine Kd.C_alloc ?_ _) | (with_reducible refine Kd.C_drewN ?_ _) | (with_reducible refine Kd.C_drew ?_)))
         (case side2 => exact (Kd.R_reads' HO36.out).2.1)
         (case side3 => repeat (first | exact (Kd.R_reads' HO39.out).2.2 | (with_reducible refine Kd.C_alloc ?_ _) | (with_reducible refine Kd.C_drewN ?_ _) | (with_reducible refine Kd.C_drew ?_)))
         (case side4 => exact (Kd.R_reads' HO39.out).2.1)
         (case side5 => repeat (first | exact (Kd.R_reads' HO49.out).2.2 | (with_reducible refine Kd.C_alloc ?_ _) | (with_reducible refine Kd.C_drewN ?_ _) | (with_reducible refine Kd.C_drew ?_)))
         (case side6 => exact (Kd.R_reads' HO49.out).2.1)
         (case side7 => repeat (first | exact (Kd.R_reads' HO52.out).2.2 | (with_reducible refine Kd.C_alloc ?_ _) | (with_reducible refine Kd.C_drewN ?_ _) | (with_reducible refine Kd.C_drew ?_)))
         (case side8 => exact (Kd.R_reads' HO52.out).2.1)
         rintro e w70 ⟨rfl, hb⟩
         refine ⟨_, rfl, ?_⟩
         have n0_ := Aside0.mk (Kd.R_below (rW HO_17002) hb)
         have n1_ := Aside0.mk (Kd.R_below (rW HO_17003) hb)
         have n2_ := Aside0.mk (Kd.R_below (rW HO36) hb)
         have n3_ := Aside0.mk (Kd.R_below (rW HO39) hb)
         have n4_ := Aside0.mk (Kd.R_below (rW HO49) hb)
         have n5_ := Aside0.mk (Kd.R_below (rW HO52) hb)
         have n6_ := bkB BK1 hb
         have n7_ := bkB BK16 hb
         have n8_ := bkB BK44 hb
         have n9_ := hbS HB hb
         clear HO_17002
         clear HO_17003
         clear HO36
         clear HO39
         clear HO49
         clear HO52
         clear BK1
         clear BK16
         clear BK44
         clear HB
         have HO_17002 := n0_
         have HO_17003 := n1_
         have HO36 := n2_
         have HO39 := n3_
         have HO49 := n4_
         have HO52 := n5_
         have BK1 := n6_
         have BK16 := n7_
         have BK44 := n8_
         have HB := n9_
         clear n0_ n1_ n2_ n3_ n4_ n5_ n6_ n7_ n8_ n9_
         (try clear hb)
         (try clear hb2)
         (try clear hk)
         (try clear hi)
         obtain ⟨Ao71, co71, eo71⟩ := Kd.R_slice HO_17002.out
         (first | subst eo71 | (injection eo71 with f1_ f2_ f3_; have f4_ := f1_.symm; have f5_ := f3_.symm; clear f1_ f2_ f3_; subst f4_; subst f5_))
         obtain ⟨Ao72, co72, eo72⟩ := Kd.R_slice HO_17003.out
         (first | subst eo72 | (injection eo72 with f1_ f2_ f3_; have f4_ := f1_.symm; have f5_ := f3_.symm; clear f1_ f2_ f3_; subst f4_; subst f5_))
         refine hK.out _ _ ⟨(blk_cell BK44.out 0).trans rfl, (blk_cell BK44.out 1).trans rfl, (blk_cell BK44.out 2).trans rfl, (blk_cell BK44.out 3).trans rfl, (blk_cell BK44.out 4).trans rfl, (blk_cell BK44.out 5).trans rfl, (blk_cell BK44.out 6).trans rfl, (blk_cell BK44.out 7).trans rfl, (blk_cell BK1.out 0).trans rfl, (blk_cell BK1.out 1).trans rfl, (blk_cell BK1.out 2).trans rfl, (blk_cell BK1.out 3).trans rfl, (blk_cell BK1.out 4).trans rfl, (blk_cell BK1.out 5).trans rfl, (blk_cell BK1.out 6).trans rfl, (blk_cell BK1.out 7).trans rfl, (blk_cell BK16.out 0).trans rfl, (blk_cell BK16.out 1).trans rfl, (blk_cell BK16.out 2).trans rfl, (blk_cell BK16.out 3).trans rfl, (blk_cell BK16.out 4).trans rfl, (blk_cell BK16.out 5).trans rfl, (blk_cell BK16.out 6).trans rfl, (blk_cell BK16.out 7).trans rfl⟩ (fun hHeld => ?_)
         clear hK K
         refine norm_ (a' := ?_) ?_ ?_
         rotate_left
         ·
          show Act.put _ (some 45) _ = _
          simp only [Act.put, List.setIfInBounds_toArray, List.set_cons_zero, List.set_cons_succ, i64_w, i32_w, IntKind.wrap_u32]
          rfl
         refine pure_ (i := 5) (N := some 46) (v := ?_) (a' := ?_) #[true, true, true, true, true, true, false, false, false, false, false, false, false] rfl rfl (any_of HT_.out (by kernel_rfl)) (fun _ _ _ h => h) (Or.inl ⟨by rfl, ?_⟩) ?_ ?_
         rotate_left
         ·
          intro w'
          go_simp
          with_reducible rfl
         rotate_left
         ·
          simp only [Act.put, List.setIfInBounds_toArray, List.set_cons_zero, List.set_cons_succ, i64_w, i32_w, IntKind.wrap_u32]
          rfl
         refine pure_ (i := 6) (N := some 47) (v := ?_) (a' := ?_) #[true, true, true, true, true, true, true, false, false, false, false, false, false] rfl rfl (any_of HT_.out (by kernel_rfl)) (fun _ _ _ h => h) (Or.inl ⟨by rfl, ?_⟩) ?_ ?_
         rotate_left
         ·
          intro w'
          go_simp
          with_reducible rfl
         rotate_left
         ·
          simp only [Act.put, List.setIfInBounds_toArray, List.set_cons_zero, List.set_cons_succ, i64_w, i32_w, IntKind.wrap_u32]
          rfl
         refine take_ (i := 7) (N := some 48) (v := ?_) (a' := ?_) #[true, true, true, true, true, true, true, true, false, false, false, false, false] rfl rfl (take_ofW HT_.out HW_.out (by kernel_rfl)) (fun _ _ _ h => h) (Or.inl ⟨by rfl, ?_⟩) hHeld ?_ ?_
         rotate_left
         ·
          rintro w' ⟨s0, s1, s2, s3, s4, s5, s6, s7, s8, s9, s10, s11, s12, s13, s14, s15, s16, s17, s18, s19, s20, s21, s22, s23⟩
          go_simp
          with_reducible rfl
         rotate_left
         ·
          simp only [Act.put, List.setIfInBounds_toArray, List.set_cons_zero, List.set_cons_succ, i64_w, i32_w, IntKind.wrap_u32]
          rfl
         refine take_ (i := 8) (N := some 49) (v := ?_) (a' := ?_) #[true, true, true, true, true, true, true, true, true, false, false, false, false] rfl rfl (take_ofW HT_.out HW_.out (by kernel_rfl)) (fun _ _ _ h => h) (Or.inl ⟨by rfl, ?_⟩) hHeld ?_ ?_
         rotate_left
         ·
          rintro w' ⟨s0, s1, s2, s3, s4, s5, s6, s7, s8, s9, s10, s11, s12, s13, s14, s15, s16, s17, s18, s19, s20, s21, s22, s23⟩
          go_simp
          with_reducible rfl
         rotate_left
         ·
          simp only [Act.put, List.setIfInBounds_toArray, List.set_cons_zero, List.set_cons_succ, i64_w, i32_w, IntKind.wrap_u32]
          rfl
         refine one_ (i := 9) (N := some 50) #[true, true, true, true, true, true, true, true, true, true, false, false, false] rfl rfl (one_of HT_.out (by kernel_rfl)) (by decide) (fun K hK => ?_)
         refine goes_ Try.func16 (by kernel_rfl) rfl #[.agg #[.int .u32 x17000_2, .int .i64 x17001_2, .slice Ao71 x17002_2.length co71, .slice Ao72 x17003_2.length co72, .int .u32 x17004_2, .int .u32 x17005_2, .int .i64 x17006_2, .int .u32 x17007_2], .agg #[.int .u32 t32, .int .i64 t33, .slice Ao63 t34.length co63, .slice Ao64 t37.length co64, .int .u32 t40, .int .u32 t41, .int .i64 t42, .int .u32 t43]] (by rfl) rfl rfl (by (try simp only [List.map_toArray, List.map_cons, List.map_nil]); first | done | rfl | (simp only [List.length_drop, List.length_take]; rfl)) ?_
         with_reducible refine (q12z.calls k2 x17000_2 x17001_2 _ _ x17002_2 _ _ x17003_2 x17004_2 x17005_2 x17006_2 x17007_2 t32 t33 _ _ t34 _ _ t37 t40 t41 t42 t43 t58 _ ?side1 ?side2 ?side3 ?side4 ?side5 ?side6 ?side7 ?side8 A55.out).mono ?_
         (case side1 => repeat (first | exact (Kd.R_reads' HO_17002.out).2.2 | (with_reducible refine Kd.C_alloc ?_ _) | (with_reducible refine Kd.C_drewN ?_ _) | (with_reducible refine Kd.C_drew ?_)))
         (case side2 => exact (Kd.R_reads' HO_17002.out).2.1)
         (case side3 => repeat (first | exact (Kd.R_reads' HO_17003.out).2.2 | (with_reducible refine Kd.C_alloc ?_ _) | (with_reducible refine Kd.C_drewN ?_ _) | (with_reducible refine Kd.C_drew ?_)))
         (case side4 => exact (Kd.R_reads' HO_17003.out).2.1)
         (case side5 => repeat (first | exact (Kd.R_reads' HO36.out).2.2 | (with_reducible refine Kd.C_alloc ?_ _) | (with_reducible refine Kd.C_drewN ?_ _) | (with_reducible refine Kd.C_drew ?_)))
         (case side6 => exact (Kd.R_reads' HO36.out).2.1)
         (case side7 => repeat (first | exact (Kd.R_reads' HO39.out).2.2 | (with_reducible refine Kd.C_alloc ?_ _) | (with_reducible refine Kd.C_drewN ?_ _) | (with_reducible refine Kd.C_drew ?_)))
         (case side8 => exact (Kd.R_reads' HO39.out).2.1)
         rintro e w73 ⟨rfl, hb⟩
         refine ⟨_, rfl, ?_⟩
         have n0_ := Aside0.mk (Kd.R_below (rW HO_17002) hb)
         have n1_ := Aside0.mk (Kd.R_below (rW HO_17003) hb)
         have n2_ := Aside0.mk (Kd.R_below (rW HO36) hb)
         have n3_ := Aside0.mk (Kd.R_below (rW HO39) hb)
         have n4_ := Aside0.mk (Kd.R_below (rW HO49) hb)
         have n5_ := Aside0.mk (Kd.R_below (rW HO52) hb)
         have n6_ := bkB BK1 hb
         have n7_ := bkB BK16 hb
         have n8_ := bkB BK44 hb
         have n9_ := hbS HB hb
         clear HO_17002
         clear HO_17003
         clear HO36
         clear HO39
         clear HO49
         clear HO52
         clear BK1
         clear BK16
         clear BK44
         clear HB
         have HO_17002 := n0_
         have HO_17003 := n1_
         have HO36 := n2_
         have HO39 := n3_
         have HO49 := n4_
         have HO52 := n5_
         have BK1 := n6_
         have BK16 := n7_
         have BK44 := n8_
         have HB := n9_
         clear n0_ n1_ n2_ n3_ n4_ n5_ n6_ n7_ n8_ n9_
         (try clear hb)
         (try clear hb2)
         (try clear hk)
         (try clear hi)
         refine hK.out _ _ ⟨(blk_cell BK44.out 0).trans rfl, (blk_cell BK44.out 1).trans rfl, (blk_cell BK44.out 2).trans rfl, (blk_cell BK44.out 3).trans rfl, (blk_cell BK44.out 4).trans rfl, (blk_cell BK44.out 5).trans rfl, (blk_cell BK44.out 6).trans rfl, (blk_cell BK44.out 7).trans rfl, (blk_cell BK1.out 0).trans rfl, (blk_cell BK1.out 1).trans rfl, (blk_cell BK1.out 2).trans rfl, (blk_cell BK1.out 3).trans rfl, (blk_cell BK1.out 4).trans rfl, (blk_cell BK1.out 5).trans rfl, (blk_cell BK1.out 6).trans rfl, (blk_cell BK1.out 7).trans rfl, (blk_cell BK16.out 0).trans rfl, (blk_cell BK16.out 1).trans rfl, (blk_cell BK16.out 2).trans rfl, (blk_cell BK16.out 3).trans rfl, (blk_cell BK16.out 4).trans rfl, (blk_cell BK16.out 5).trans rfl, (blk_cell BK16.out 6).trans rfl, (blk_cell BK16.out 7).trans rfl⟩ (fun hHeld => ?_)
         clear hK K
         refine norm_ (a' := ?_) ?_ ?_
         rotate_left
         ·
          show Act.put _ (some 50) _ = _
          simp only [Act.put, List.setIfInBounds_toArray, List.set_cons_zero, List.set_cons_succ, i64_w, i32_w, IntKind.wrap_u32]
          rfl
         refine pure_ (i := 10) (N := some 51) (v := ?_) (a' := ?_) #[true, true, true, true, true, true, true, true, true, true, true, false, false] rfl rfl (any_of HT_.out (by kernel_rfl)) (fun _ _ _ h => h) (Or.inl ⟨by rfl, ?_⟩) ?_ ?_
         rotate_left
         ·
          intro w'
          go_simp
          with_reducible rfl
         rotate_left
         ·
          simp only [Act.put, List.setIfInBounds_toArray, List.set_cons_zero, List.set_cons_succ, i64_w, i32_w, IntKind.wrap_u32]
          rfl
         refine pure_ (i := 11) (N := some 52) (v := ?_) (a' := ?_) #[true, true, true, true, true, true, true, true, true, true, true, true, false] rfl rfl (any_of HT_.out (by kernel_rfl)) (fun _ _ _ h => h) (Or.inl ⟨by rfl, ?_⟩) ?_ ?_
         rotate_left
         ·
          intro w'
          go_simp
          with_reducible rfl
         rotate_left
         ·
          simp only [Act.put, List.setIfInBounds_toArray, List.set_cons_zero, List.set_cons_succ, i64_w, i32_w, IntKind.wrap_u32]
          rfl
         refine pure_ (i := 12) (N := some 4) (v := ?_) (a' := ?_) #[true, true, true, true, true, true, true, true, true, true, true, true, true] rfl rfl (any_of HT_.out (by kernel_rfl)) (fun _ _ _ h => h) (Or.inl ⟨by rfl, ?_⟩) ?_ ?_
         rotate_left
         ·
          intro w'
          go_simp
          with_reducible rfl
         rotate_left
         ·
          simp only [Act.put, List.setIfInBounds_toArray, List.set_cons_zero, List.set_cons_succ, i64_w, i32_w, IntKind.wrap_u32]
          rfl
         refine done_ (done_of HT_.out (by kernel_rfl)) ?_
         try go_wp2
         go_ret
         exact ⟨by first | rfl | (simp [errW_none, errW_some] <;> rfl) | (simp [*, errW_none, errW_some] <;> rfl), hbW HB⟩
        ·
         rw [if_neg c54] at H
         have c54b0 : (t57 == 0) = false := beq_eq_false_iff_ne.mpr c54
         have c54b1 : (t57 != 0) = true := bne_iff_ne.mpr c54
         obtain rfl := Option.some.inj H
         have hnb74 := NB1_16.out
         have hnc74 := NB16_1.out
         have hcz75_0 : wr.cell? ⟨gb1, 0, none⟩ = some (.int .u32 a1_0) := (blk_cell BK1.out 0).trans rfl
         have hcz75_1 : wr.cell? ⟨gb1, 1, none⟩ = some (.int .i64 a1_1) := (blk_cell BK1.out 1).trans rfl
         have hcz75_2 : wr.cell? ⟨gb1, 2, none⟩ = some (.slice A1_2 l1_2.length c1_2) := (blk_cell BK1.out 2).trans rfl
         have hcz75_3 : wr.cell? ⟨gb1, 3, none⟩ = some (.slice A1_3 l1_3.length c1_3) := (blk_cell BK1.out 3).trans rfl
         have hcz75_4 : wr.cell? ⟨gb1, 4, none⟩ = some (.int .u32 a1_4) := (blk_cell BK1.out 4).trans rfl
         have hcz75_5 : wr.cell? ⟨gb1, 5, none⟩ = some (.int .u32 a1_5) := (blk_cell BK1.out 5).trans rfl
         have hcz75_6 : wr.cell? ⟨gb1, 6, none⟩ = some (.int .i64 a1_6) := (blk_cell BK1.out 6).trans rfl
         have hcz75_7 : wr.cell? ⟨gb1, 7, none⟩ = some (.int .u32 a1_7) := (blk_cell BK1.out 7).trans rfl
         have hfz75_0 := blk_frozen BK1.out 0
         have hfz75_1 := blk_frozen BK1.out 1
         have hfz75_2 := blk_frozen BK1.out 2
         have hfz75_3 := blk_frozen BK1.out 3
         have hfz75_4 := blk_frozen BK1.out 4
         have hfz75_5 := blk_frozen BK1.out 5
         have hfz75_6 := blk_frozen BK1.out 6
         have hfz75_7 := blk_frozen BK1.out 7
         try go_wp2_with (first | ((with_reducible refine gate_callee (f := 22) rfl ?_); refine goesL_ (some 40) rfl rfl Try.func22 (by kernel_rfl) rfl #[.slice A0 l0.length c0, .agg #[.int .u32 a1_0, .int .i64 a1_1, .slice A1_2 l1_2.length c1_2, .slice A1_3 l1_3.length c1_3, .int .u32 a1_4, .int .u32 a1_5, .int .i64 a1_6, .int .u32 a1_7]] rfl (by (try simp only [List.map_toArray, List.map_cons, List.map_nil]); first | done | rfl | (simp only [List.length_drop, List.length_take]; rfl)) ?_; (with_reducible refine (q13z.calls k2 _ _ l0 a1_0 a1_1 _ _ l1_2 _ _ l1_3 a1_4 a1_5 a1_6 a1_7 t32 t33 t34 t37 t40 t41 t42 t43 _ ?side1 ?side2 ?side3 ?side4 ?side5 ?side6 A51.out).mono ?_); (case side1 => repeat (first | exact (Kd.C_below HR0.out HB.out) | (with_reducible refine Kd.C_alloc ?_ _) | (with_reducible refine Kd.C_drewN ?_ _) | (with_reducible refine Kd.C_drew ?_))); (case side2 => exact HC0.out); (case side3 => repeat (first | exact (Kd.C_below HR1_2.out HB.out) | (with_reducible refine Kd.C_alloc ?_ _) | (with_reducible refine Kd.C_drewN ?_ _) | (with_reducible refine Kd.C_drew ?_))); (case side4 => exact HC1_2.out); (case side5 => repeat (first | exact (Kd.C_below HR1_3.out HB.out) | (with_reducible refine Kd.C_alloc ?_ _) | (with_reducible refine Kd.C_drewN ?_ _) | (with_reducible refine Kd.C_drew ?_))); (case side6 => exact HC1_3.out); rintro e w76 ⟨v35, v38, rfl, ho0, ho1, hb⟩; refine ⟨_, rfl, ?_⟩; have n0_ := Aside0.mk (Kd.R_mono (Kd.R_told (Kd.R_told (Kd.R_old (rW HO_17002) hb) (Kd.R_base ho0)) (Kd.R_base ho1)) (fun _ h_ => h_.1)); have n1_ := Aside0.mk (Kd.R_mono (Kd.R_told (Kd.R_told (Kd.R_old (rW HO_17003) hb) (Kd.R_base ho0)) (Kd.R_base ho1)) (fun _ h_ => h_.1)); have n2_ := Aside0.mk (Kd.R_lower (Kd.R_new' (Kd.R_new' ho0 (Kd.R_lt (rW HO_17002))) (Kd.R_lt (rW HO_17003))) (below_size (hbW HB))); have n3_ := Aside0.mk (Kd.R_lower (Kd.R_new' (Kd.R_new' ho1 (Kd.R_lt (rW HO_17002))) (Kd.R_lt (rW HO_17003))) (below_size (hbW HB))); have n4_ := bkB BK1 hb; have n5_ := bkB BK16 hb; have n6_ := hbS HB hb; clear HO_17002; clear HO_17003; clear BK1; clear BK16; clear HB; have HO_17002 := n0_; have HO_17003 := n1_; have HO36 := n2_; have HO39 := n3_; have BK1 := n4_; have BK16 := n5_; have HB := n6_; clear n0_ n1_ n2_ n3_ n4_ n5_ n6_; (try clear hb); (try clear hb2); (try clear hk); (try clear hi); (try clear ho0); (try clear ho1)) | ((with_reducible refine gate_dst (N := 8) rfl ?_); refine box_event ?hg (N := 8) ?hd (cs := #[.int .u32 0, .int .i64 0, .slice none 0 0, .slice none 0 0, .int .u32 0, .int .u32 0, .int .i64 0, .int .u32 0]) (t := 30) ?hr ?_; (case hd => rfl); (case hg => rfl); (case hr => first | (go_simp; done) | (go_simp; rfl)); intro gb44 hg w77 hbox hb; have n0_ := Aside0.mk (Kd.R_below (rW HO_17002) hb); have n1_ := Aside0.mk (Kd.R_below (rW HO_17003) hb); have n2_ := Aside0.mk (Kd.R_below (rW HO36) hb); have n3_ := Aside0.mk (Kd.R_below (rW HO39) hb); have n4_ := bkB BK1 hb; have n5_ := bkB BK16 hb; have n6_ := hbS HB hb; have n7_ := Aside0.mk (hbox); have n8_ := Aside0.mk ((by rw [hg]; exact (below_size (hbW HB)) : w.heap.size ≤ gb44)); have n9_ := Aside0.mk ((by rw [hg]; exact (below_size (hbW HB)) : w.heap.size ≤ gb44)); have n10_ := Aside0.mk ((by rw [hg]; exact Nat.ne_of_lt (blk_lt (bkW BK1)) : gb1 ≠ gb44)); have n11_ := Aside0.mk ((by rw [hg]; exact Nat.ne_of_gt (blk_lt (bkW BK1)) : gb44 ≠ gb1)); have n12_ := Aside0.mk ((by rw [hg]; exact Nat.ne_of_lt (blk_lt (bkW BK16)) : gb16 ≠ gb44)); have n13_ := Aside0.mk ((by rw [hg]; exact Nat.ne_of_gt (blk_lt (bkW BK16)) : gb44 ≠ gb16)); clear HO_17002; clear HO_17003; clear HO36; clear HO39; clear BK1; clear BK16; clear HB; have HO_17002 := n0_; have HO_17003 := n1_; have HO36 := n2_; have HO39 := n3_; have BK1 := n4_; have BK16 := n5_; have HB := n6_; have BK44 := n7_; have GW44 := n8_; have GE44 := n9_; have NB1_44 := n10_; have NB44_1 := n11_; have NB16_44 := n12_; have NB44_16 := n13_; clear n0_ n1_ n2_ n3_ n4_ n5_ n6_ n7_ n8_ n9_ n10_ n11_ n12_ n13_; clear hb hbox hg; have hnb78 := NB44_1.out; have hnc78 := NB1_44.out; have hnb79 := NB44_16.out; have hnc79 := NB16_44.out; have hcz80_0 : w77.cell? ⟨gb44, 0, none⟩ = some (.int .u32 0) := (blk_cell BK44.out 0).trans rfl; have hcz80_1 : w77.cell? ⟨gb44, 1, none⟩ = some (.int .i64 0) := (blk_cell BK44.out 1).trans rfl; have hcz80_2 : w77.cell? ⟨gb44, 2, none⟩ = some (.slice none 0 0) := (blk_cell BK44.out 2).trans rfl; have hcz80_3 : w77.cell? ⟨gb44, 3, none⟩ = some (.slice none 0 0) := (blk_cell BK44.out 3).trans rfl; have hcz80_4 : w77.cell? ⟨gb44, 4, none⟩ = some (.int .u32 0) := (blk_cell BK44.out 4).trans rfl; have hcz80_5 : w77.cell? ⟨gb44, 5, none⟩ = some (.int .u32 0) := (blk_cell BK44.out 5).trans rfl; have hcz80_6 : w77.cell? ⟨gb44, 6, none⟩ = some (.int .i64 0) := (blk_cell BK44.out 6).trans rfl; have hcz80_7 : w77.cell? ⟨gb44, 7, none⟩ = some (.int .u32 0) := (blk_cell BK44.out 7).trans rfl; have hfz80_0 := blk_frozen BK44.out 0; have hfz80_1 := blk_frozen BK44.out 1; have hfz80_2 := blk_frozen BK44.out 2; have hfz80_3 := blk_frozen BK44.out 3; have hfz80_4 := blk_frozen BK44.out 4; have hfz80_5 := blk_frozen BK44.out 5; have hfz80_6 := blk_frozen BK44.out 6; have hfz80_7 := blk_frozen BK44.out 7; obtain ⟨Ao81, co81, eo81⟩ := Kd.R_slice HO36.out; subst eo81; obtain ⟨Ao82, co82, eo82⟩ := Kd.R_slice HO39.out; subst eo82))
         have n0_ : Aside0 (Kd.R (Kd.int .u32) 22 ((((((((w77.setCell ⟨gb44, 0, none⟩ (.int .u32 t32)).setCell ⟨gb44, 1, none⟩ (.int .i64 t33)).setCell ⟨gb44, 2, none⟩ (.slice Ao81 t34.length co81)).setCell ⟨gb44, 3, none⟩ (.slice Ao82 t37.length co82)).setCell ⟨gb44, 4, none⟩ (.int .u32 t40)).setCell ⟨gb44, 5, none⟩ (.int .u32 t41)).setCell ⟨gb44, 6, none⟩ (.int .i64 t42)).setCell ⟨gb44, 7, none⟩ (.int .u32 t43)) w.heap.size (fun k_ => some k_ ≠ (u17003 : Value).ownBlock ∧ some k_ ≠ (.slice Ao81 t34.length co81 : Value).ownBlock ∧ some k_ ≠ (.slice Ao82 t37.length co82 : Value).ownBlock) u17002 x17002_2) := ⟨by (with_reducible repeat (first | apply Kd.R_alloc | apply Kd.R_drewN | apply Kd.R_drew)); exact Kd.R_mono (Kd.R_far (p := ⟨gb44, 7, none⟩) (Kd.R_far (p := ⟨gb44, 6, none⟩) (Kd.R_far (p := ⟨gb44, 5, none⟩) (Kd.R_far (p := ⟨gb44, 4, none⟩) (Kd.R_far (p := ⟨gb44, 3, none⟩) (Kd.R_far (p := ⟨gb44, 2, none⟩) (Kd.R_far (p := ⟨gb44, 1, none⟩) (Kd.R_far (p := ⟨gb44, 0, none⟩) (Kd.R_types HO_17002.out BK44.out (by decide)) (fun _ hk => hk.2) (.int .u32 t32)) (fun _ hk => hk.2) (.int .i64 t33)) (fun _ hk => hk.2) (.slice Ao81 t34.length co81)) (fun _ hk => hk.2) (.slice Ao82 t37.length co82)) (fun _ hk => hk.2) (.int .u32 t40)) (fun _ hk => hk.2) (.int .u32 t41)) (fun _ hk => hk.2) (.int .i64 t42)) (fun _ hk => hk.2) (.int .u32 t43)) (fun _ hk => ⟨hk.1.1.1, ⟨hk.1.1.2, hk.1.2⟩⟩)⟩
         have n1_ : Aside0 (Kd.R (Kd.int .u32) 22 ((((((((w77.setCell ⟨gb44, 0, none⟩ (.int .u32 t32)).setCell ⟨gb44, 1, none⟩ (.int .i64 t33)).setCell ⟨gb44, 2, none⟩ (.slice Ao81 t34.length co81)).setCell ⟨gb44, 3, none⟩ (.slice Ao82 t37.length co82)).setCell ⟨gb44, 4, none⟩ (.int .u32 t40)).setCell ⟨gb44, 5, none⟩ (.int .u32 t41)).setCell ⟨gb44, 6, none⟩ (.int .i64 t42)).setCell ⟨gb44, 7, none⟩ (.int .u32 t43)) w.heap.size (fun k_ => some k_ ≠ (u17002 : Value).ownBlock ∧ some k_ ≠ (.slice Ao81 t34.length co81 : Value).ownBlock ∧ some k_ ≠ (.slice Ao82 t37.length co82 : Value).ownBlock) u17003 x17003_2) := ⟨by (with_reducible repeat (first | apply Kd.R_alloc | apply Kd.R_drewN | apply Kd.R_drew)); exact Kd.R_mono (Kd.R_far (p := ⟨gb44, 7, none⟩) (Kd.R_far (p := ⟨gb44, 6, none⟩) (Kd.R_far (p := ⟨gb44, 5, none⟩) (Kd.R_far (p := ⟨gb44, 4, none⟩) (Kd.R_far (p := ⟨gb44, 3, none⟩) (Kd.R_far (p := ⟨gb44, 2, none⟩) (Kd.R_far (p := ⟨gb44, 1, none⟩) (Kd.R_far (p := ⟨gb44, 0, none⟩) (Kd.R_types HO_17003.out BK44.out (by decide)) (fun _ hk => hk.2) (.int .u32 t32)) (fun _ hk => hk.2) (.int .i64 t33)) (fun _ hk => hk.2) (.slice Ao81 t34.length co81)) (fun _ hk => hk.2) (.slice Ao82 t37.length co82)) (fun _ hk => hk.2) (.int .u32 t40)) (fun _ hk => hk.2) (.int .u32 t41)) (fun _ hk => hk.2) (.int .i64 t42)) (fun _ hk => hk.2) (.int .u32 t43)) (fun _ hk => ⟨hk.1.1.1, ⟨hk.1.1.2, hk.1.2⟩⟩)⟩
         have n2_ : Aside0 (Kd.R (Kd.int .u32) 22 ((((((((w77.setCell ⟨gb44, 0, none⟩ (.int .u32 t32)).setCell ⟨gb44, 1, none⟩ (.int .i64 t33)).setCell ⟨gb44, 2, none⟩ (.slice Ao81 t34.length co81)).setCell ⟨gb44, 3, none⟩ (.slice Ao82 t37.length co82)).setCell ⟨gb44, 4, none⟩ (.int .u32 t40)).setCell ⟨gb44, 5, none⟩ (.int .u32 t41)).setCell ⟨gb44, 6, none⟩ (.int .i64 t42)).setCell ⟨gb44, 7, none⟩ (.int .u32 t43)) w.heap.size (fun k_ => some k_ ≠ (u17002 : Value).ownBlock ∧ some k_ ≠ (u17003 : Value).ownBlock ∧ some k_ ≠ (.slice Ao82 t37.length co82 : Value).ownBlock) (.slice Ao81 t34.length co81) t34) := ⟨by (with_reducible repeat (first | apply Kd.R_alloc | apply Kd.R_drewN | apply Kd.R_drew)); exact Kd.R_mono (Kd.R_far (p := ⟨gb44, 7, none⟩) (Kd.R_far (p := ⟨gb44, 6, none⟩) (Kd.R_far (p := ⟨gb44, 5, none⟩) (Kd.R_far (p := ⟨gb44, 4, none⟩) (Kd.R_far (p := ⟨gb44, 3, none⟩) (Kd.R_far (p := ⟨gb44, 2, none⟩) (Kd.R_far (p := ⟨gb44, 1, none⟩) (Kd.R_far (p := ⟨gb44, 0, none⟩) (Kd.R_types HO36.out BK44.out (by decide)) (fun _ hk => hk.2) (.int .u32 t32)) (fun _ hk => hk.2) (.int .i64 t33)) (fun _ hk => hk.2) (.slice Ao81 t34.length co81)) (fun _ hk => hk.2) (.slice Ao82 t37.length co82)) (fun _ hk => hk.2) (.int .u32 t40)) (fun _ hk => hk.2) (.int .u32 t41)) (fun _ hk => hk.2) (.int .i64 t42)) (fun _ hk => hk.2) (.int .u32 t43)) (fun _ hk => ⟨hk.1.1.2, ⟨hk.1.2, hk.1.1.1⟩⟩)⟩
         have n3_ : Aside0 (Kd.R (Kd.int .u32) 22 ((((((((w77.setCell ⟨gb44, 0, none⟩ (.int .u32 t32)).setCell ⟨gb44, 1, none⟩ (.int .i64 t33)).setCell ⟨gb44, 2, none⟩ (.slice Ao81 t34.length co81)).setCell ⟨gb44, 3, none⟩ (.slice Ao82 t37.length co82)).setCell ⟨gb44, 4, none⟩ (.int .u32 t40)).setCell ⟨gb44, 5, none⟩ (.int .u32 t41)).setCell ⟨gb44, 6, none⟩ (.int .i64 t42)).setCell ⟨gb44, 7, none⟩ (.int .u32 t43)) w.heap.size (fun k_ => some k_ ≠ (u17002 : Value).ownBlock ∧ some k_ ≠ (u17003 : Value).ownBlock ∧ some k_ ≠ (.slice Ao81 t34.length co81 : Value).ownBlock) (.slice Ao82 t37.length co82) t37) := ⟨by (with_reducible repeat (first | apply Kd.R_alloc | apply Kd.R_drewN | apply Kd.R_drew)); exact Kd.R_mono (Kd.R_far (p := ⟨gb44, 7, none⟩) (Kd.R_far (p := ⟨gb44, 6, none⟩) (Kd.R_far (p := ⟨gb44, 5, none⟩) (Kd.R_far (p := ⟨gb44, 4, none⟩) (Kd.R_far (p := ⟨gb44, 3, none⟩) (Kd.R_far (p := ⟨gb44, 2, none⟩) (Kd.R_far (p := ⟨gb44, 1, none⟩) (Kd.R_far (p := ⟨gb44, 0, none⟩) (Kd.R_types HO39.out BK44.out (by decide)) (fun _ hk => hk.2) (.int .u32 t32)) (fun _ hk => hk.2) (.int .i64 t33)) (fun _ hk => hk.2) (.slice Ao81 t34.length co81)) (fun _ hk => hk.2) (.slice Ao82 t37.length co82)) (fun _ hk => hk.2) (.int .u32 t40)) (fun _ hk => hk.2) (.int .u32 t41)) (fun _ hk => hk.2) (.int .i64 t42)) (fun _ hk => hk.2) (.int .u32 t43)) (fun _ hk => ⟨hk.1.1.2, ⟨hk.1.2, hk.1.1.1⟩⟩)⟩
         have n4_ : Aside0 (((((((((w77.setCell ⟨gb44, 0, none⟩ (.int .u32 t32)).setCell ⟨gb44, 1, none⟩ (.int .i64 t33)).setCell ⟨gb44, 2, none⟩ (.slice Ao81 t34.length co81)).setCell ⟨gb44, 3, none⟩ (.slice Ao82 t37.length co82)).setCell ⟨gb44, 4, none⟩ (.int .u32 t40)).setCell ⟨gb44, 5, none⟩ (.int .u32 t41)).setCell ⟨gb44, 6, none⟩ (.int .i64 t42)).setCell ⟨gb44, 7, none⟩ (.int .u32 t43)).heap[gb1]? = some (.cells #[.int .u32 a1_0, .int .i64 a1_1, .slice A1_2 l1_2.length c1_2, .slice A1_3 l1_3.length c1_3, .int .u32 a1_4, .int .u32 a1_5, .int .i64 a1_6, .int .u32 a1_7] 30 (0, 0))) := ⟨by (with_reducible repeat (first | refine blk_drewN ?_ _ | refine blk_drew ?_ | refine blk_alloc ?_ _)); refine blk_far ?_ NB1_44.out _; (with_reducible repeat (first | refine blk_drewN ?_ _ | refine blk_drew ?_ | refine blk_alloc ?_ _)); refine blk_far ?_ NB1_44.out _; (with_reducible repeat (first | refine blk_drewN ?_ _ | refine blk_drew ?_ | refine blk_alloc ?_ _)); refine blk_far ?_ NB1_44.out _; (with_reducible repeat (first | refine blk_drewN ?_ _ | refine blk_drew ?_ | refine blk_alloc ?_ _)); refine blk_far ?_ NB1_44.out _; (with_reducible repeat (first | refine blk_drewN ?_ _ | refine blk_drew ?_ | refine blk_alloc ?_ _)); refine blk_far ?_ NB1_44.out _; (with_reducible repeat (first | refine blk_drewN ?_ _ | refine blk_drew ?_ | refine blk_alloc ?_ _)); refine blk_far ?_ NB1_44.out _; (with_reducible repeat (first | refine blk_drewN ?_ _ | refine blk_drew ?_ | refine blk_alloc ?_ _)); refine blk_far ?_ NB1_44.out _; (with_reducible repeat (first | refine blk_drewN ?_ _ | refine blk_drew ?_ | refine blk_alloc ?_ _)); refine blk_far ?_ NB1_44.out _; (with_reducible repeat (first | refine blk_drewN ?_ _ | refine blk_drew ?_ | refine blk_alloc ?_ _)); exact BK1.out⟩
         have n5_ : Aside0 (((((((((w77.setCell ⟨gb44, 0, none⟩ (.int .u32 t32)).setCell ⟨gb44, 1, none⟩ (.int .i64 t33)).setCell ⟨gb44, 2, none⟩ (.slice Ao81 t34.length co81)).setCell ⟨gb44, 3, none⟩ (.slice Ao82 t37.length co82)).setCell ⟨gb44, 4, none⟩ (.int .u32 t40)).setCell ⟨gb44, 5, none⟩ (.int .u32 t41)).setCell ⟨gb44, 6, none⟩ (.int .i64 t42)).setCell ⟨gb44, 7, none⟩ (.int .u32 t43)).heap[gb16]? = some (.cells #[.int .u32 x17000_2, .int .i64 x17001_2, u17002, u17003, .int .u32 x17004_2, .int .u32 x17005_2, .int .i64 x17006_2, .int .u32 x17007_2] 30 (0, 0))) := ⟨by (with_reducible repeat (first | refine blk_drewN ?_ _ | refine blk_drew ?_ | refine blk_alloc ?_ _)); refine blk_far ?_ NB16_44.out _; (with_reducible repeat (first | refine blk_drewN ?_ _ | refine blk_drew ?_ | refine blk_alloc ?_ _)); refine blk_far ?_ NB16_44.out _; (with_reducible repeat (first | refine blk_drewN ?_ _ | refine blk_drew ?_ | refine blk_alloc ?_ _)); refine blk_far ?_ NB16_44.out _; (with_reducible repeat (first | refine blk_drewN ?_ _ | refine blk_drew ?_ | refine blk_alloc ?_ _)); refine blk_far ?_ NB16_44.out _; (with_reducible repeat (first | refine blk_drewN ?_ _ | refine blk_drew ?_ | refine blk_alloc ?_ _)); refine blk_far ?_ NB16_44.out _; (with_reducible repeat (first | refine blk_drewN ?_ _ | refine blk_drew ?_ | refine blk_alloc ?_ _)); refine blk_far ?_ NB16_44.out _; (with_reducible repeat (first | refine blk_drewN ?_ _ | refine blk_drew ?_ | refine blk_alloc ?_ _)); refine blk_far ?_ NB16_44.out _; (with_reducible repeat (first | refine blk_drewN ?_ _ | refine blk_drew ?_ | refine blk_alloc ?_ _)); refine blk_far ?_ NB16_44.out _; (with_reducible repeat (first | refine blk_drewN ?_ _ | refine blk_drew ?_ | refine blk_alloc ?_ _)); exact BK16.out⟩
         have n6_ : Aside0 (((((((((w77.setCell ⟨gb44, 0, none⟩ (.int .u32 t32)).setCell ⟨gb44, 1, none⟩ (.int .i64 t33)).setCell ⟨gb44, 2, none⟩ (.slice Ao81 t34.length co81)).setCell ⟨gb44, 3, none⟩ (.slice Ao82 t37.length co82)).setCell ⟨gb44, 4, none⟩ (.int .u32 t40)).setCell ⟨gb44, 5, none⟩ (.int .u32 t41)).setCell ⟨gb44, 6, none⟩ (.int .i64 t42)).setCell ⟨gb44, 7, none⟩ (.int .u32 t43)).heap[gb44]? = some (.cells #[.int .u32 t32, .int .i64 t33, .slice Ao81 t34.length co81, .slice Ao82 t37.length co82, .int .u32 t40, .int .u32 t41, .int .i64 t42, .int .u32 t43] 30 (0, 0))) := ⟨by (with_reducible repeat (first | refine blk_drewN ?_ _ | refine blk_drew ?_ | refine blk_alloc ?_ _)); refine blk_put (cs := #[.int .u32 t32, .int .i64 t33, .slice Ao81 t34.length co81, .slice Ao82 t37.length co82, .int .u32 t40, .int .u32 t41, .int .i64 t42, .int .u32 0]) ?_ 7 _ rfl; (with_reducible repeat (first | refine blk_drewN ?_ _ | refine blk_drew ?_ | refine blk_alloc ?_ _)); refine blk_put (cs := #[.int .u32 t32, .int .i64 t33, .slice Ao81 t34.length co81, .slice Ao82 t37.length co82, .int .u32 t40, .int .u32 t41, .int .i64 0, .int .u32 0]) ?_ 6 _ rfl; (with_reducible repeat (first | refine blk_drewN ?_ _ | refine blk_drew ?_ | refine blk_alloc ?_ _)); refine blk_put (cs := #[.int .u32 t32, .int .i64 t33, .slice Ao81 t34.length co81, .slice Ao82 t37.length co82, .int .u32 t40, .int .u32 0, .int .i64 0, .int .u32 0]) ?_ 5 _ rfl; (with_reducible repeat (first | refine blk_drewN ?_ _ | refine blk_drew ?_ | refine blk_alloc ?_ _)); refine blk_put (cs := #[.int .u32 t32, .int .i64 t33, .slice Ao81 t34.length co81, .slice Ao82 t37.length co82, .int .u32 0, .int .u32 0, .int .i64 0, .int .u32 0]) ?_ 4 _ rfl; (with_reducible repeat (first | refine blk_drewN ?_ _ | refine blk_drew ?_ | refine blk_alloc ?_ _)); refine blk_put (cs := #[.int .u32 t32, .int .i64 t33, .slice Ao81 t34.length co81, .slice none 0 0, .int .u32 0, .int .u32 0, .int .i64 0, .int .u32 0]) ?_ 3 _ rfl; (with_reducible repeat (first | refine blk_drewN ?_ _ | refine blk_drew ?_ | refine blk_alloc ?_ _)); refine blk_put (cs := #[.int .u32 t32, .int .i64 t33, .slice none 0 0, .slice none 0 0, .int .u32 0, .int .u32 0, .int .i64 0, .int .u32 0]) ?_ 2 _ rfl; (with_reducible repeat (first | refine blk_drewN ?_ _ | refine blk_drew ?_ | refine blk_alloc ?_ _)); refine blk_put (cs := #[.int .u32 t32, .int .i64 0, .slice none 0 0, .slice none 0 0, .int .u32 0, .int .u32 0, .int .i64 0, .int .u32 0]) ?_ 1 _ rfl; (with_reducible repeat (first | refine blk_drewN ?_ _ | refine blk_drew ?_ | refine blk_alloc ?_ _)); refine blk_put (cs := #[.int .u32 0, .int .i64 0, .slice none 0 0, .slice none 0 0, .int .u32 0, .int .u32 0, .int .i64 0, .int .u32 0]) ?_ 0 _ rfl; (with_reducible repeat (first | refine blk_drewN ?_ _ | refine blk_drew ?_ | refine blk_alloc ?_ _)); exact BK44.out⟩
         have n7_ : Aside0 (Below w.heap.size w ((((((((w77.setCell ⟨gb44, 0, none⟩ (.int .u32 t32)).setCell ⟨gb44, 1, none⟩ (.int .i64 t33)).setCell ⟨gb44, 2, none⟩ (.slice Ao81 t34.length co81)).setCell ⟨gb44, 3, none⟩ (.slice Ao82 t37.length co82)).setCell ⟨gb44, 4, none⟩ (.int .u32 t40)).setCell ⟨gb44, 5, none⟩ (.int .u32 t41)).setCell ⟨gb44, 6, none⟩ (.int .i64 t42)).setCell ⟨gb44, 7, none⟩ (.int .u32 t43))) := ⟨hbW HB⟩
         (try clear HO_17002)
         (try clear HO_17003)
         (try clear HO36)
         (try clear HO39)
         (try clear BK1)
         (try clear BK16)
         (try clear BK44)
         (try clear HB)
         generalize ((((((((w77.setCell ⟨gb44, 0, none⟩ (.int .u32 t32)).setCell ⟨gb44, 1, none⟩ (.int .i64 t33)).setCell ⟨gb44, 2, none⟩ (.slice Ao81 t34.length co81)).setCell ⟨gb44, 3, none⟩ (.slice Ao82 t37.length co82)).setCell ⟨gb44, 4, none⟩ (.int .u32 t40)).setCell ⟨gb44, 5, none⟩ (.int .u32 t41)).setCell ⟨gb44, 6, none⟩ (.int .i64 t42)).setCell ⟨gb44, 7, none⟩ (.int .u32 t43)) = w83 at n0_ n1_ n2_ n3_ n4_ n5_ n6_ n7_ ⊢
         have HO_17002 := n0_
         have HO_17003 := n1_
         have HO36 := n2_
         have HO39 := n3_
         have BK1 := n4_
         have BK16 := n5_
         have BK44 := n6_
         have HB := n7_
         clear n0_ n1_ n2_ n3_ n4_ n5_ n6_ n7_
         have n0_ := Aside0.mk (Kd.R_drew HO_17002.out)
         have n1_ := Aside0.mk (Kd.R_drew HO_17003.out)
         have n2_ := Aside0.mk (Kd.R_drew HO36.out)
         have n3_ := Aside0.mk (Kd.R_drew HO39.out)
         have n4_ := Aside0.mk (blk_drew BK1.out)
         have n5_ := Aside0.mk (blk_drew BK16.out)
         have n6_ := Aside0.mk (blk_drew BK44.out)
         have n7_ := Aside0.mk (below_drew1 HB.out)
         clear HO_17002
         clear HO_17003
         clear HO36
         clear HO39
         clear BK1
         clear BK16
         clear BK44
         clear HB
         have HO_17002 := n0_
         have HO_17003 := n1_
         have HO36 := n2_
         have HO39 := n3_
         have BK1 := n4_
         have BK16 := n5_
         have BK44 := n6_
         have HB := n7_
         clear n0_ n1_ n2_ n3_ n4_ n5_ n6_ n7_
         refine start_ (n := 13) (S := fun w' => w'.cell? ⟨gb44, 0, none⟩ = some (.int .u32 t32) ∧ w'.cell? ⟨gb44, 1, none⟩ = some (.int .i64 t33) ∧ w'.cell? ⟨gb44, 2, none⟩ = some (.slice Ao81 t34.length co81) ∧ w'.cell? ⟨gb44, 3, none⟩ = some (.slice Ao82 t37.length co82) ∧ w'.cell? ⟨gb44, 4, none⟩ = some (.int .u32 t40) ∧ w'.cell? ⟨gb44, 5, none⟩ = some (.int .u32 t41) ∧ w'.cell? ⟨gb44, 6, none⟩ = some (.int .i64 t42) ∧ w'.cell? ⟨gb44, 7, none⟩ = some (.int .u32 t43) ∧ w'.cell? ⟨gb1, 0, none⟩ = some (.int .u32 a1_0) ∧ w'.cell? ⟨gb1, 1, none⟩ = some (.int .i64 a1_1) ∧ w'.cell? ⟨gb1, 2, none⟩ = some (.slice A1_2 l1_2.length c1_2) ∧ w'.cell? ⟨gb1, 3, none⟩ = some (.slice A1_3 l1_3.length c1_3) ∧ w'.cell? ⟨gb1, 4, none⟩ = some (.int .u32 a1_4) ∧ w'.cell? ⟨gb1, 5, none⟩ = some (.int .u32 a1_5) ∧ w'.cell? ⟨gb1, 6, none⟩ = some (.int .i64 a1_6) ∧ w'.cell? ⟨gb1, 7, none⟩ = some (.int .u32 a1_7)) (ds := []) #[false, false, false, false, false, false, false, false, false, false, false, false, false] (by kernel_rfl) rfl rfl ⟨(blk_cell BK44.out 0).trans rfl, (blk_cell BK44.out 1).trans rfl, (blk_cell BK44.out 2).trans rfl, (blk_cell BK44.out 3).trans rfl, (blk_cell BK44.out 4).trans rfl, (blk_cell BK44.out 5).trans rfl, (blk_cell BK44.out 6).trans rfl, (blk_cell BK44.out 7).trans rfl, (blk_cell BK1.out 0).trans rfl, (blk_cell BK1.out 1).trans rfl, (blk_cell BK1.out 2).trans rfl, (blk_cell BK1.out 3).trans rfl, (blk_cell BK1.out 4).trans rfl, (blk_cell BK1.out 5).trans rfl, (blk_cell BK1.out 6).trans rfl, (blk_cell BK1.out 7).trans rfl⟩ (fun hHeld => ?_); refine with_tabW q27z.tab14 q27z.bits14 (fun HT_ HW_ => ?_)
         generalize w83.drew = w84 at HO_17002 HO_17003 HO36 HO39 BK1 BK16 BK44 HB hHeld ⊢
         refine pure_ (i := 1) (N := some 42) (v := ?_) (a' := ?_) #[false, true, false, false, false, false, false, false, false, false, false, false, false] rfl rfl (any_of HT_.out (by kernel_rfl)) (fun _ _ _ h => h) (Or.inl ⟨by rfl, ?_⟩) ?_ ?_
         rotate_left
         ·
          intro w'
          go_simp
          with_reducible rfl
         rotate_left
         ·
          simp only [Act.put, List.setIfInBounds_toArray, List.set_cons_zero, List.set_cons_succ, i64_w, i32_w, IntKind.wrap_u32]
          rfl
         refine take_ (i := 0) (N := some 41) (v := ?_) (a' := ?_) #[true, true, false, false, false, false, false, false, false, false, false, false, false] rfl rfl (take_ofW HT_.out HW_.out (by kernel_rfl)) (fun _ _ _ h => h) (Or.inl ⟨by rfl, ?_⟩) hHeld ?_ ?_
         rotate_left
         ·
          rintro w' ⟨s0, s1, s2, s3, s4, s5, s6, s7, s8, s9, s10, s11, s12, s13, s14, s15⟩
          go_simp
          with_reducible rfl
         rotate_left
         ·
          simp only [Act.put, List.setIfInBounds_toArray, List.set_cons_zero, List.set_cons_succ, i64_w, i32_w, IntKind.wrap_u32]
          rfl
         refine take_ (i := 2) (N := some 43) (v := ?_) (a' := ?_) #[true, true, true, false, false, false, false, false, false, false, false, false, false] rfl rfl (take_ofW HT_.out HW_.out (by kernel_rfl)) (fun _ _ _ h => h) (Or.inl ⟨by rfl, ?_⟩) hHeld ?_ ?_
         rotate_left
         ·
          rintro w' ⟨s0, s1, s2, s3, s4, s5, s6, s7, s8, s9, s10, s11, s12, s13, s14, s15⟩
          go_simp
          with_reducible rfl
         rotate_left
         ·
          simp only [Act.put, List.setIfInBounds_toArray, List.set_cons_zero, List.set_cons_succ, i64_w, i32_w, IntKind.wrap_u32]
          rfl
         refine one_ (i := 3) (N := some 44) #[true, true, true, true, false, false, false, false, false, false, false, false, false] rfl rfl (one_of HT_.out (by kernel_rfl)) (by decide) (fun K hK => ?_)
         refine goes_ Try.func23 (by kernel_rfl) rfl #[.slice A0 l0.length c0, .agg #[.int .u32 a1_0, .int .i64 a1_1, .slice A1_2 l1_2.length c1_2, .slice A1_3 l1_3.length c1_3, .int .u32 a1_4, .int .u32 a1_5, .int .i64 a1_6, .int .u32 a1_7]] (by rfl) rfl rfl (by (try simp only [List.map_toArray, List.map_cons, List.map_nil]); first | done | rfl | (simp only [List.length_drop, List.length_take]; rfl)) ?_
         with_reducible refine (q21z.calls k2 _ _ l0 a1_0 a1_1 _ _ l1_2 _ _ l1_3 a1_4 a1_5 a1_6 a1_7 t45 t46 t47 t50 t53 t54 t55 t56 _ ?side1 ?side2 ?side3 ?side4 ?side5 ?side6 A52.out).mono ?_
         (case side1 => repeat (first | exact (Kd.C_below HR0.out HB.out) | (with_reducible refine Kd.C_alloc ?_ _) | (with_reducible refine Kd.C_drewN ?_ _) | (with_reducible refine Kd.C_drew ?_)))
         (case side2 => exact HC0.out)
         (case side3 => repeat (first | exact (Kd.C_below HR1_2.out HB.out) | (with_reducible refine Kd.C_alloc ?_ _) | (with_reducible refine Kd.C_drewN ?_ _) | (with_reducible refine Kd.C_drew ?_)))
         (case side4 => exact HC1_2.out)
         (case side5 => repeat (first | exact (Kd.C_below HR1_3.out HB.out) | (with_reducible refine Kd.C_alloc ?_ _) | (with_reducible refine Kd.C_drewN ?_ _) | (with_reducible refine Kd.C_drew ?_)))
         (case side6 => exact HC1_3.out)
         rintro e w85 ⟨v48, v51, rfl, ho0, ho1, hb⟩
         refine ⟨_, rfl, ?_⟩
         have n0_ := Aside0.mk (Kd.R_mono (Kd.R_told (Kd.R_told (Kd.R_old (rW HO_17002) hb) (Kd.R_base ho0)) (Kd.R_base ho1)) (fun _ h_ => h_.1))
         have n1_ := Aside0.mk (Kd.R_mono (Kd.R_told (Kd.R_told (Kd.R_old (rW HO_17003) hb) (Kd.R_base ho0)) (Kd.R_base ho1)) (fun _ h_ => h_.1))
         have n2_ := Aside0.mk (Kd.R_mono (Kd.R_told (Kd.R_told (Kd.R_old (rW HO36) hb) (Kd.R_base ho0)) (Kd.R_base ho1)) (fun _ h_ => h_.1))
         have n3_ := Aside0.mk (Kd.R_mono (Kd.R_told (Kd.R_told (Kd.R_old (rW HO39) hb) (Kd.R_base ho0)) (Kd.R_base ho1)) (fun _ h_ => h_.1))
         have n4_ := Aside0.mk (Kd.R_lower (Kd.R_new' (Kd.R_new' (Kd.R_new' (Kd.R_new' ho0 (Kd.R_lt (rW HO_17002))) (Kd.R_lt (rW HO_17003))) (Kd.R_lt (rW HO36))) (Kd.R_lt (rW HO39))) (below_size (hbW HB)))
         have n5_ := Aside0.mk (Kd.R_lower (Kd.R_new' (Kd.R_new' (Kd.R_new' (Kd.R_new' ho1 (Kd.R_lt (rW HO_17002))) (Kd.R_lt (rW HO_17003))) (Kd.R_lt (rW HO36))) (Kd.R_lt (rW HO39))) (below_size (hbW HB)))
         have n6_ := bkB BK1 hb
         have n7_ := bkB BK16 hb
         have n8_ := bkB BK44 hb
         have n9_ := hbS HB hb
         clear HO_17002
         clear HO_17003
         clear HO36
         clear HO39
         clear BK1
         clear BK16
         clear BK44
         clear HB
         have HO_17002 := n0_
         have HO_17003 := n1_
         have HO36 := n2_
         have HO39 := n3_
         have HO49 := n4_
         have HO52 := n5_
         have BK1 := n6_
         have BK16 := n7_
         have BK44 := n8_
         have HB := n9_
         clear n0_ n1_ n2_ n3_ n4_ n5_ n6_ n7_ n8_ n9_
         (try clear hb)
         (try clear hb2)
         (try clear hk)
         (try clear hi)
         (try clear ho0)
         (try clear ho1)
         obtain ⟨Ao86, co86, eo86⟩ := Kd.R_slice HO49.out
         (first | subst eo86 | (injection eo86 with f1_ f2_ f3_; have f4_ := f1_.symm; have f5_ := f3_.symm; clear f1_ f2_ f3_; subst f4_; subst f5_))
         obtain ⟨Ao87, co87, eo87⟩ := Kd.R_slice HO52.out
         (first | subst eo87 | (injection eo87 with f1_ f2_ f3_; have f4_ := f1_.symm; have f5_ := f3_.symm; clear f1_ f2_ f3_; subst f4_; subst f5_))
         refine hK.out _ _ ⟨(blk_cell BK44.out 0).trans rfl, (blk_cell BK44.out 1).trans rfl, (blk_cell BK44.out 2).trans rfl, (blk_cell BK44.out 3).trans rfl, (blk_cell BK44.out 4).trans rfl, (blk_cell BK44.out 5).trans rfl, (blk_cell BK44.out 6).trans rfl, (blk_cell BK44.out 7).trans rfl, (blk_cell BK1.out 0).trans rfl, (blk_cell BK1.out 1).trans rfl, (blk_cell BK1.out 2).trans rfl, (blk_cell BK1.out 3).trans rfl, (blk_cell BK1.out 4).trans rfl, (blk_cell BK1.out 5).trans rfl, (blk_cell BK1.out 6).trans rfl, (blk_cell BK1.out 7).trans rfl⟩ (fun hHeld => ?_)
         clear hK K
         refine norm_ (a' := ?_) ?_ ?_
         rotate_left
         ·
          show Act.put _ (some 44) _ = _
          simp only [Act.put, List.setIfInBounds_toArray, List.set_cons_zero, List.set_cons_succ, i64_w, i32_w, IntKind.wrap_u32]
          rfl
         refine one_ (i := 4) (N := some 45) #[true, true, true, true, true, false, false, false, false, false, false, false, false] rfl rfl (one_of HT_.out (by kernel_rfl)) (by decide) (fun K hK => ?_)
         refine goes_ Try.func16 (by kernel_rfl) rfl #[.agg #[.int .u32 t32, .int .i64 t33, .slice Ao81 t34.length co81, .slice Ao82 t37.length co82, .int .u32 t40, .int .u32 t41, .int .i64 t42, .int .u32 t43], .agg #[.int .u32 t45, .int .i64 t46, .slice Ao86 t47.length co86, .slice Ao87 t50.length co87, .int .u32 t53, .int .u32 t54, .int .i64 t55, .int .u32 t56]] (by rfl) rfl rfl (by (try simp only [List.map_toArray, List.map_cons, List.map_nil]); first | done | rfl | (simp only [List.length_drop, List.length_take]; rfl)) ?_
         with_reducible refine (q12z.calls k2 t32 t33 _ _ t34 _ _ t37 t40 t41 t42 t43 t45 t46 _ _ t47 _ _ t50 t53 t54 t55 t56 t57 _ ?side1 ?side2 ?side3 ?side4 ?side5 ?side6 ?side7 ?side8 A53.out).mono ?_
         (case side1 => repeat (first | exact (Kd.R_reads' HO36.out).2.2 | (with_reducible refine Kd.C_alloc ?_ _) | (with_reducible refine Kd.C_drewN ?_ _) | (with_reducible refine Kd.C_drew ?_)))
         (case side2 => exact (Kd.R_reads' HO36.out).2.1)
         (case side3 => repeat (first | exact (Kd.R_reads' HO39.out).2.2 | (with_reducible refine Kd.C_alloc ?_ _) | (with_reducible refine Kd.C_drewN ?_ _) | (with_reducible refine Kd.C_drew ?_)))
         (case side4 => exact (Kd.R_reads' HO39.out).2.1)
         (case side5 => repeat (first | exact (Kd.R_reads' HO49.out).2.2 | (with_reducible refine Kd.C_alloc ?_ _) | (with_reducible refine Kd.C_drewN ?_ _) | (with_reducible refine Kd.C_drew ?_)))
         (case side6 => exact (Kd.R_reads' HO49.out).2.1)
         (case side7 => repeat (first | exact (Kd.R_reads' HO52.out).2.2 | (with_reducible refine Kd.C_alloc ?_ _) | (with_reducible refine Kd.C_drewN ?_ _) | (with_reducible refine Kd.C_drew ?_)))
         (case side8 => exact (Kd.R_reads' HO52.out).2.1)
         rintro e w88 ⟨rfl, hb⟩
         refine ⟨_, rfl, ?_⟩
         have n0_ := Aside0.mk (Kd.R_below (rW HO_17002) hb)
         have n1_ := Aside0.mk (Kd.R_below (rW HO_17003) hb)
         have n2_ := Aside0.mk (Kd.R_below (rW HO36) hb)
         have n3_ := Aside0.mk (Kd.R_below (rW HO39) hb)
         have n4_ := Aside0.mk (Kd.R_below (rW HO49) hb)
         have n5_ := Aside0.mk (Kd.R_below (rW HO52) hb)
         have n6_ := bkB BK1 hb
         have n7_ := bkB BK16 hb
         have n8_ := bkB BK44 hb
         have n9_ := hbS HB hb
         clear HO_17002
         clear HO_17003
         clear HO36
         clear HO39
         clear HO49
         clear HO52
         clear BK1
         clear BK16
         clear BK44
         clear HB
         have HO_17002 := n0_
         have HO_17003 := n1_
         have HO36 := n2_
         have HO39 := n3_
         have HO49 := n4_
         have HO52 := n5_
         have BK1 := n6_
         have BK16 := n7_
         have BK44 := n8_
         have HB := n9_
         clear n0_ n1_ n2_ n3_ n4_ n5_ n6_ n7_ n8_ n9_
         (try clear hb)
         (try clear hb2)
         (try clear hk)
         (try clear hi)
         refine hK.out _ _ ⟨(blk_cell BK44.out 0).trans rfl, (blk_cell BK44.out 1).trans rfl, (blk_cell BK44.out 2).trans rfl, (blk_cell BK44.out 3).trans rfl, (blk_cell BK44.out 4).trans rfl, (blk_cell BK44.out 5).trans rfl, (blk_cell BK44.out 6).trans rfl, (blk_cell BK44.out 7).trans rfl, (blk_cell BK1.out 0).trans rfl, (blk_cell BK1.out 1).trans rfl, (blk_cell BK1.out 2).trans rfl, (blk_cell BK1.out 3).trans rfl, (blk_cell BK1.out 4).trans rfl, (blk_cell BK1.out 5).trans rfl, (blk_cell BK1.out 6).trans rfl, (blk_cell BK1.out 7).trans rfl⟩ (fun hHeld => ?_)
         clear hK K
         refine norm_ (a' := ?_) ?_ ?_
         rotate_left
         ·
          show Act.put _ (some 45) _ = _
          simp only [Act.put, List.setIfInBounds_toArray, List.set_cons_zero, List.set_cons_succ, i64_w, i32_w, IntKind.wrap_u32]
          rfl
         refine pure_ (i := 5) (N := some 46) (v := ?_) (a' := ?_) #[true, true, true, true, true, true, false, false, false, false, false, false, false] rfl rfl (any_of HT_.out (by kernel_rfl)) (fun _ _ _ h => h) (Or.inl ⟨by rfl, ?_⟩) ?_ ?_
         rotate_left
         ·
          intro w'
          go_simp
          with_reducible rfl
         rotate_left
         ·
          simp only [Act.put, List.setIfInBounds_toArray, List.set_cons_zero, List.set_cons_succ, i64_w, i32_w, IntKind.wrap_u32]
          rfl
         refine pure_ (i := 6) (N := some 47) (v := ?_) (a' := ?_) #[true, true, true, true, true, true, true, false, false, false, false, false, false] rfl rfl (any_of HT_.out (by kernel_rfl)) (fun _ _ _ h => h) (Or.inl ⟨by rfl, ?_⟩) ?_ ?_
         rotate_left
         ·
          intro w'
          go_simp
          with_reducible rfl
         rotate_left
         ·
          simp only [Act.put, List.setIfInBounds_toArray, List.set_cons_zero, List.set_cons_succ, i64_w, i32_w, IntKind.wrap_u32]
          rfl
         refine pure_ (i := 7) (N := some 48) (v := undef) (a' := ?_) #[true, true, true, true, true, true, true, true, false, false, false, false, false] rfl rfl (any_of HT_.out (by kernel_rfl)) (fun _ _ _ h => h) (Or.inr ⟨by rfl, rfl⟩) ?_ ?_
         rotate_left
         ·
          simp only [Act.put, List.setIfInBounds_toArray, List.set_cons_zero, List.set_cons_succ, i64_w, i32_w, IntKind.wrap_u32]
          rfl
         refine pure_ (i := 8) (N := some 49) (v := undef) (a' := ?_) #[true, true, true, true, true, true, true, true, true, false, false, false, false] rfl rfl (any_of HT_.out (by kernel_rfl)) (fun _ _ _ h => h) (Or.inr ⟨by rfl, rfl⟩) ?_ ?_
         rotate_left
         ·
          simp only [Act.put, List.setIfInBounds_toArray, List.set_cons_zero, List.set_cons_succ, i64_w, i32_w, IntKind.wrap_u32]
          rfl
         refine pure_ (i := 9) (N := some 50) (v := undef) (a' := ?_) #[true, true, true, true, true, true, true, true, true, true, false, false, false] rfl rfl (any_of HT_.out (by kernel_rfl)) (fun _ _ _ h => h) (Or.inr ⟨by rfl, rfl⟩) ?_ ?_
         rotate_left
         ·
          simp only [Act.put, List.setIfInBounds_toArray, List.set_cons_zero, List.set_cons_succ, i64_w, i32_w, IntKind.wrap_u32]
          rfl
         refine pure_ (i := 10) (N := some 51) (v := undef) (a' := ?_) #[true, true, true, true, true, true, true, true, true, true, true, false, false] rfl rfl (any_of HT_.out (by kernel_rfl)) (fun _ _ _ h => h) (Or.inr ⟨by rfl, rfl⟩) ?_ ?_
         rotate_left
         ·
          simp only [Act.put, List.setIfInBounds_toArray, List.set_cons_zero, List.set_cons_succ, i64_w, i32_w, IntKind.wrap_u32]
          rfl
         refine pure_ (i := 11) (N := some 52) (v := ?_) (a' := ?_) #[true, true, true, true, true, true, true, true, true, true, true, true, false] rfl rfl (any_of HT_.out (by kernel_rfl)) (fun _ _ _ h => h) (Or.inl ⟨by rfl, ?_⟩) ?_ ?_
         rotate_left
         ·
          intro w'
          go_simp
          with_reducible rfl
         rotate_left
         ·
          simp only [Act.put, List.setIfInBounds_toArray, List.set_cons_zero, List.set_cons_succ, i64_w, i32_w, IntKind.wrap_u32]
          rfl
         refine pure_ (i := 12) (N := some 4) (v := ?_) (a' := ?_) #[true, true, true, true, true, true, true, true, true, true, true, true, true] rfl rfl (any_of HT_.out (by kernel_rfl)) (fun _ _ _ h => h) (Or.inl ⟨by rfl, ?_⟩) ?_ ?_
         rotate_left
         ·
          intro w'
          go_simp
          with_reducible rfl
         rotate_left
         ·
          simp only [Act.put, List.setIfInBounds_toArray, List.set_cons_zero, List.set_cons_succ, i64_w, i32_w, IntKind.wrap_u32]
          rfl
         refine done_ (done_of HT_.out (by kernel_rfl)) ?_
         try go_wp2
         go_ret
         exact ⟨by first | rfl | (simp [errW_none, errW_some] <;> rfl) | (simp [*, errW_none, errW_some] <;> rfl), hbW HB⟩
 ·
  replace c4 := Bool.eq_false_iff.mpr c4
  subst c4
  have H1 : (some false) = some r := by rw [if_neg (show ¬ (false = true) by decide)] at H; exact H
  clear H
  have H := H1
  clear H1
  obtain rfl := Option.some.inj H
  go_enter Try.func6, Try.ntmps6
  go_wp2_with (first | ((with_reducible refine gate_dst (N := 3) rfl ?_); refine box_event ?hg (N := 3) ?hd (cs := #[.int .u32 a1_0, .int .i64 a1_1, .slice A1_2 l1_2.length c1_2, .slice A1_3 l1_3.length c1_3, .int .u32 a1_4, .int .u32 a1_5, .int .i64 a1_6, .int .u32 a1_7]) (t := 30) ?hr ?_; (case hd => rfl); (case hg => rfl); (case hr => first | (go_simp; done) | (go_simp; rfl)); intro gb1 hg w89 hbox hb; have n0_ := hbS HB hb; have n1_ := Aside0.mk (hbox); have n2_ := Aside0.mk ((by rw [hg]; exact (below_size (hbW HB)) : w.heap.size ≤ gb1)); have n3_ := Aside0.mk ((by rw [hg]; exact (below_size (hbW HB)) : w.heap.size ≤ gb1)); clear HB; have HB := n0_; have BK1 := n1_; have GW1 := n2_; have GE1 := n3_; clear n0_ n1_ n2_ n3_; clear hb hbox hg) | ((with_reducible refine gate_callee (f := 8) rfl ?_); refine goesL_ (some 9) rfl rfl Try.func8 (by kernel_rfl) rfl #[] rfl (by (try simp only [List.map_toArray, List.map_cons, List.map_nil]); first | done | rfl | (simp only [List.length_drop, List.length_take]; rfl)) ?_; (with_reducible refine (q23z.calls k  false _ A3.out).mono ?_); rintro e w90 ⟨rfl, hb⟩; refine ⟨_, rfl, ?_⟩; have n0_ := bkB BK1 hb; have n1_ := hbS HB hb; clear BK1; clear HB; have BK1 := n0_; have HB := n1_; clear n0_ n1_; (try clear hb); (try clear hb2); (try clear hk); (try clear hi)))
  go_ret
  exact ⟨by first | rfl | (simp [errW_none, errW_some] <;> rfl) | (simp [*, errW_none, errW_some] <;> rfl), hbW HB⟩

end Go.Proofs.Ytgelpccjdndfoaa.P

namespace Go.Proofs.Ytgelpccjdndfoaa.P
open Go.RowKit Go.Proofs.YtgelpccjdndfoaaW.PrintWords Go.Proofs.YtgelpccjdndfoaaW.PrintLast Go.Proofs.YtgelpccjdndfoaaW.PrintMore Go.ChangeShapes Go.WideShapes
set_option linter.unusedVariables false
section
variable {H : Type} {enc : TypeId × Value → H} {P : Program} {w : World} {base : Nat} {spare : Nat → Bool} {held : Bool}
/-- Whatever reads as data of type T is a value of kind d. -/
def Opens (enc : TypeId × Value → H) (P : Program) (w : World) (base : Nat) (spare : Nat → Bool) (held : Bool) {α : Type} (d : Kd α) (T : TypeId) (good : α → Prop) : Prop :=
  ∀ fuel cs y, DataW.trod enc P w base spare held fuel T cs = some y → ∃ x, d.K w x cs ∧ good x
theorem opens_int {k : IntKind} {T : TypeId} (ht : P.underlying T = some (.int k)) : Opens enc P w base spare held (Kd.int k) T (fun n => (Lit.int k n).wf = true) := by
  intro fuel cs y h
  obtain ⟨n, rfl, _, hw⟩ := DataW.trod_int ht h
  exact ⟨n, rfl, hw⟩
theorem opens_bool {T : TypeId} (ht : P.underlying T = some .bool) : Opens enc P w base spare held Kd.bool T (fun _ => True) := by
  intro fuel cs y h
  cases fuel with
  | zero => simp [DataW.trod] at h
  | succ n =>
    unfold DataW.trod at h
    rw [ht] at h
    split at h
    all_goals first | exact ⟨_, rfl, trivial⟩ | (exfalso; simp_all; done)
theorem pick_list {α : Type} {Q : Nat → α → Prop} : ∀ n : Nat, (∀ i, i < n → ∃ x, Q i x) → ∃ xs : List α, xs.length = n ∧ ∀ i x, xs[i]? = some x → Q i x
  | 0, _ => ⟨[], rfl, fun i x h => by simp at h⟩
  | n + 1, h => by
    obtain ⟨xs, hl, hx⟩ := pick_list n (fun i hi => h i (by omega))
    obtain ⟨x, hxn⟩ := h n (by omega)
    refine ⟨xs ++ [x], by simp [hl], fun i z hz => ?_⟩
    by_cases hi : i < n
    · rw [List.getElem?_append_left (by omega)] at hz
      exact hx i z hz
    · rw [List.getElem?_append_right (by omega)] at hz
      have hi0 : i - xs.length = 0 := by
        have := (List.getElem?_eq_some_iff.1 hz).1
        simp at this
        omega
      rw [hi0] at hz
      have : x = z := by simpa using hz
      subst this
      have : i = n := by omega
      subst this
      exact hxn
theorem opens_slice {α : Type} {d : Kd α} {T e : TypeId} {good : α → Prop} (ht : P.underlying T = some (.slice e)) (hce : P.cellsOf e = d.sz) (ho : Opens enc P w base spare held d e good) :
    Opens enc P w base spare held (Kd.slice e d) T (fun xs => xs.length ≤ 9223372036854775807 ∧ ∀ x ∈ xs, good x) := by
  intro fuel cs y h
  rcases Go.Deep.open_slice ht h with ⟨rfl, _⟩ | ⟨a, len, cap, m, n, D, Pl, rfl, hb, hl, hm, hmm, _, hx⟩
  · exact ⟨[], ⟨none, 0, rfl, Nat.le_refl _, ⟨rfl, by simp, fun h => absurd h (by simp)⟩⟩, by simp, fun x hx => (List.not_mem_nil hx).elim⟩
  · have hlm : len ≤ m := by rw [hmm]; split <;> omega
    have each : ∀ i, i < len → ∃ q : α × List Value, w.cells? base (a.add (i * d.sz)) d.sz = some q.2 ∧ d.K w q.1 q.2 ∧ good q.1 := fun i hi => by
      obtain ⟨cs', h1, h2⟩ := hx i (by omega)
      obtain ⟨x, hk, hg⟩ := ho _ _ _ h2
      rw [hce] at h1
      exact ⟨(x, cs'), h1, hk, hg⟩
    obtain ⟨qs, hql, hq⟩ := pick_list len each
    refine ⟨qs.map (·.1), ⟨some a, cap, by simp [hql], by simp [hql]; omega, ?_⟩, by simp only [List.length_map, hql]; unfold maxLen at hm; omega, ?_⟩
    · refine ⟨rfl, by simp only [List.length_map, hql]; unfold maxLen at hm; omega, fun _ => ⟨a, rfl, fun j p hp => ?_⟩⟩
      rw [List.getElem?_map] at hp
      obtain ⟨q, hqj, rfl⟩ := Option.map_eq_some_iff.1 hp
      obtain ⟨h1, h2, _⟩ := hq j q hqj
      obtain ⟨_, h4, h5⟩ := World.cells?_some h1
      refine ⟨q.2, h4, h2, fun i u hu => ?_⟩
      have hi : i < d.sz := by have := (List.getElem?_eq_some_iff.1 hu).1; omega
      have h6 := h5 i hi
      rw [add_add] at h6
      rw [h6, hu]
    · intro x hx'
      obtain ⟨q, hq', rfl⟩ := List.mem_map.1 hx'
      obtain ⟨i, hi⟩ := List.getElem?_of_mem hq'
      exact (hq i q hi).2.2
end
end Go.Proofs.Ytgelpccjdndfoaa.P

namespace Go.Proofs.Ytgelpccjdndfoaa.P
open Go.RowKit Go.Proofs.YtgelpccjdndfoaaW.PrintWords Go.Proofs.YtgelpccjdndfoaaW.PrintMore Go.ChangeShapes Go.WideShapes
set_option linter.unusedVariables false
def good50 (x : S50) : Prop := (Lit.int .u32 x.f0).wf = true ∧ (Lit.int .u32 x.f1).wf = true
theorem opens_T50 {H : Type} {enc : TypeId × Value → H} {w : World} {base : Nat} {spare : Nat → Bool} {held : Bool} : Opens enc Try.prog w base spare held k50 50 good50 := by
  intro fuel cs y h
  obtain ⟨xs, n, _, _, hlen, hxl, hf⟩ := DataW.trod_struct Try.underlying50 h
  have hcs : cs.length = 2 := hlen.trans (by kernel_rfl)
  have h0 := hf 0 _ rfl
  obtain ⟨y0, e0⟩ : ∃ y_, xs[0]? = some y_ := ⟨_, List.getElem?_eq_getElem (by rw [hxl]; decide)⟩
  rw [e0] at h0
  have q0 : DataW.trod enc Try.prog w base spare held n 22 ((cs.drop 0).take 1) = some y0 := (congrArg (fun z => DataW.trod enc Try.prog w base spare held n 22 ((cs.drop 0).take z)) (show 1 = Try.prog.cellsOf 22 from by kernel_rfl)).trans h0
  obtain ⟨x0, k0_, g0⟩ := (opens_int Try.underlying22) _ _ _ q0
  have h1 := hf 1 _ rfl
  obtain ⟨y1, e1⟩ : ∃ y_, xs[1]? = some y_ := ⟨_, List.getElem?_eq_getElem (by rw [hxl]; decide)⟩
  rw [e1] at h1
  have q1 : DataW.trod enc Try.prog w base spare held n 22 ((cs.drop 1).take 1) = some y1 := (congrArg (fun z => DataW.trod enc Try.prog w base spare held n 22 ((cs.drop 1).take z)) (show 1 = Try.prog.cellsOf 22 from by kernel_rfl)).trans h1
  obtain ⟨x1, k1_, g1⟩ := (opens_int Try.underlying22) _ _ _ q1
  have s0 : cs.drop 0 = (cs.drop 0).take 1 ++ cs.drop 1 := by have e_ := (List.take_append_drop 1 (cs.drop 0)).symm; rwa [List.drop_drop] at e_
  have s1 : cs.drop 1 = (cs.drop 1).take 1 := (List.take_of_length_le (by rw [List.length_drop, hcs]; decide)).symm
  exact ⟨⟨x0, x1⟩, ⟨(cs.drop 0).take 1, cs.drop 1, (show cs = _ from s0), k0_, (by rw [s1]; exact k1_)⟩, g0, g1⟩
def good53 (x : S53) : Prop := True ∧ (x.f1.length ≤ 9223372036854775807 ∧ ∀ z_ ∈ x.f1, good50 z_)
theorem opens_T53 {H : Type} {enc : TypeId × Value → H} {w : World} {base : Nat} {spare : Nat → Bool} {held : Bool} : Opens enc Try.prog w base spare held k53 53 good53 := by
  intro fuel cs y h
  obtain ⟨xs, n, _, _, hlen, hxl, hf⟩ := DataW.trod_struct Try.underlying53 h
  have hcs : cs.length = 2 := hlen.trans (by kernel_rfl)
  have h0 := hf 0 _ rfl
  obtain ⟨y0, e0⟩ : ∃ y_, xs[0]? = some y_ := ⟨_, List.getElem?_eq_getElem (by rw [hxl]; decide)⟩
  rw [e0] at h0
  have q0 : DataW.trod enc Try.prog w base spare held n 4 ((cs.drop 0).take 1) = some y0 := (congrArg (fun z => DataW.trod enc Try.prog w base spare held n 4 ((cs.drop 0).take z)) (show 1 = Try.prog.cellsOf 4 from by kernel_rfl)).trans h0
  obtain ⟨x0, k0_, g0⟩ := (opens_bool Try.underlying4) _ _ _ q0
  have h1 := hf 1 _ rfl
  obtain ⟨y1, e1⟩ : ∃ y_, xs[1]? = some y_ := ⟨_, List.getElem?_eq_getElem (by rw [hxl]; decide)⟩
  rw [e1] at h1
  have q1 : DataW.trod enc Try.prog w base spare held n 51 ((cs.drop 1).take 1) = some y1 := (congrArg (fun z => DataW.trod enc Try.prog w base spare held n 51 ((cs.drop 1).take z)) (show 1 = Try.prog.cellsOf 51 from by kernel_rfl)).trans h1
  obtain ⟨x1, k1_, g1⟩ := (opens_slice Try.underlying51 (by kernel_rfl) opens_T50) _ _ _ q1
  have s0 : cs.drop 0 = (cs.drop 0).take 1 ++ cs.drop 1 := by have e_ := (List.take_append_drop 1 (cs.drop 0)).symm; rwa [List.drop_drop] at e_
  have s1 : cs.drop 1 = (cs.drop 1).take 1 := (List.take_of_length_le (by rw [List.length_drop, hcs]; decide)).symm
  exact ⟨⟨x0, x1⟩, ⟨(cs.drop 0).take 1, cs.drop 1, (show cs = _ from s0), k0_, (by rw [s1]; exact k1_)⟩, g0, g1⟩
def good26 (x : S26) : Prop := (Lit.int .i64 x.f0).wf = true ∧ (Lit.int .u32 x.f1).wf = true ∧ (x.f2.length ≤ 9223372036854775807 ∧ ∀ z_ ∈ x.f2, (Lit.int .u32 z_).wf = true) ∧ (x.f3.length ≤ 9223372036854775807 ∧ ∀ z_ ∈ x.f3, good53 z_)
theorem opens_T26 {H : Type} {enc : TypeId × Value → H} {w : World} {base : Nat} {spare : Nat → Bool} {held : Bool} : Opens enc Try.prog w base spare held k26 26 good26 := by
  intro fuel cs y h
  obtain ⟨xs, n, _, _, hlen, hxl, hf⟩ := DataW.trod_struct Try.underlying26 h
  have hcs : cs.length = 4 := hlen.trans (by kernel_rfl)
  have h0 := hf 0 _ rfl
  obtain ⟨y0, e0⟩ : ∃ y_, xs[0]? = some y_ := ⟨_, List.getElem?_eq_getElem (by rw [hxl]; decide)⟩
  rw [e0] at h0
  have q0 : DataW.trod enc Try.prog w base spare held n 3 ((cs.drop 0).take 1) = some y0 := (congrArg (fun z => DataW.trod enc Try.prog w base spare held n 3 ((cs.drop 0).take z)) (show 1 = Try.prog.cellsOf 3 from by kernel_rfl)).trans h0
  obtain ⟨x0, k0_, g0⟩ := (opens_int Try.underlying3) _ _ _ q0
  have h1 := hf 1 _ rfl
  obtain ⟨y1, e1⟩ : ∃ y_, xs[1]? = some y_ := ⟨_, List.getElem?_eq_getElem (by rw [hxl]; decide)⟩
  rw [e1] at h1
  have q1 : DataW.trod enc Try.prog w base spare held n 22 ((cs.drop 1).take 1) = some y1 := (congrArg (fun z => DataW.trod enc Try.prog w base spare held n 22 ((cs.drop 1).take z)) (show 1 = Try.prog.cellsOf 22 from by kernel_rfl)).trans h1
  obtain ⟨x1, k1_, g1⟩ := (opens_int Try.underlying22) _ _ _ q1
  have h2 := hf 2 _ rfl
  obtain ⟨y2, e2⟩ : ∃ y_, xs[2]? = some y_ := ⟨_, List.getElem?_eq_getElem (by rw [hxl]; decide)⟩
  rw [e2] at h2
  have q2 : DataW.trod enc Try.prog w base spare held n 23 ((cs.drop 2).take 1) = some y2 := (congrArg (fun z => DataW.trod enc Try.prog w base spare held n 23 ((cs.drop 2).take z)) (show 1 = Try.prog.cellsOf 23 from by kernel_rfl)).trans h2
  obtain ⟨x2, k2_, g2⟩ := (opens_slice Try.underlying23 (by kernel_rfl) (opens_int Try.underlying22)) _ _ _ q2
  have h3 := hf 3 _ rfl
  obtain ⟨y3, e3⟩ : ∃ y_, xs[3]? = some y_ := ⟨_, List.getElem?_eq_getElem (by rw [hxl]; decide)⟩
  rw [e3] at h3
  have q3 : DataW.trod enc Try.prog w base spare held n 24 ((cs.drop 3).take 1) = some y3 := (congrArg (fun z => DataW.trod enc Try.prog w base spare held n 24 ((cs.drop 3).take z)) (show 1 = Try.prog.cellsOf 24 from by kernel_rfl)).trans h3
  obtain ⟨x3, k3_, g3⟩ := (opens_slice Try.underlying24 (by kernel_rfl) opens_T53) _ _ _ q3
  have s0 : cs.drop 0 = (cs.drop 0).take 1 ++ cs.drop 1 := by have e_ := (List.take_append_drop 1 (cs.drop 0)).symm; rwa [List.drop_drop] at e_
  have s1 : cs.drop 1 = (cs.drop 1).take 1 ++ cs.drop 2 := by have e_ := (List.take_append_drop 1 (cs.drop 1)).symm; rwa [List.drop_drop] at e_
  have s2 : cs.drop 2 = (cs.drop 2).take 1 ++ cs.drop 3 := by have e_ := (List.take_append_drop 1 (cs.drop 2)).symm; rwa [List.drop_drop] at e_
  have s3 : cs.drop 3 = (cs.drop 3).take 1 := (List.take_of_length_le (by rw [List.length_drop, hcs]; decide)).symm
  exact ⟨⟨x0, x1, x2, x3⟩, ⟨(cs.drop 0).take 1, cs.drop 1, (show cs = _ from s0), k0_, ⟨(cs.drop 1).take 1, cs.drop 2, s1, k1_, ⟨(cs.drop 2).take 1, cs.drop 3, s2, k2_, (by rw [s3]; exact k3_)⟩⟩⟩, g0, g1, g2, g3⟩
def good28 (x : S28) : Prop := (Lit.int .u32 x.f0).wf = true ∧ (Lit.int .i64 x.f1).wf = true
theorem opens_T28 {H : Type} {enc : TypeId × Value → H} {w : World} {base : Nat} {spare : Nat → Bool} {held : Bool} : Opens enc Try.prog w base spare held k28 28 good28 := by
  intro fuel cs y h
  obtain ⟨xs, n, _, _, hlen, hxl, hf⟩ := DataW.trod_struct Try.underlying28 h
  have hcs : cs.length = 2 := hlen.trans (by kernel_rfl)
  have h0 := hf 0 _ rfl
  obtain ⟨y0, e0⟩ : ∃ y_, xs[0]? = some y_ := ⟨_, List.getElem?_eq_getElem (by rw [hxl]; decide)⟩
  rw [e0] at h0
  have q0 : DataW.trod enc Try.prog w base spare held n 22 ((cs.drop 0).take 1) = some y0 := (congrArg (fun z => DataW.trod enc Try.prog w base spare held n 22 ((cs.drop 0).take z)) (show 1 = Try.prog.cellsOf 22 from by kernel_rfl)).trans h0
  obtain ⟨x0, k0_, g0⟩ := (opens_int Try.underlying22) _ _ _ q0
  have h1 := hf 1 _ rfl
  obtain ⟨y1, e1⟩ : ∃ y_, xs[1]? = some y_ := ⟨_, List.getElem?_eq_getElem (by rw [hxl]; decide)⟩
  rw [e1] at h1
  have q1 : DataW.trod enc Try.prog w base spare held n 3 ((cs.drop 1).take 1) = some y1 := (congrArg (fun z => DataW.trod enc Try.prog w base spare held n 3 ((cs.drop 1).take z)) (show 1 = Try.prog.cellsOf 3 from by kernel_rfl)).trans h1
  obtain ⟨x1, k1_, g1⟩ := (opens_int Try.underlying3) _ _ _ q1
  have s0 : cs.drop 0 = (cs.drop 0).take 1 ++ cs.drop 1 := by have e_ := (List.take_append_drop 1 (cs.drop 0)).symm; rwa [List.drop_drop] at e_
  have s1 : cs.drop 1 = (cs.drop 1).take 1 := (List.take_of_length_le (by rw [List.length_drop, hcs]; decide)).symm
  exact ⟨⟨x0, x1⟩, ⟨(cs.drop 0).take 1, cs.drop 1, (show cs = _ from s0), k0_, (by rw [s1]; exact k1_)⟩, g0, g1⟩
def good30 (x : S30) : Prop := good28 x.f0 ∧ (x.f1.length ≤ 9223372036854775807 ∧ ∀ z_ ∈ x.f1, (Lit.int .u32 z_).wf = true) ∧ (x.f2.length ≤ 9223372036854775807 ∧ ∀ z_ ∈ x.f2, (Lit.int .u32 z_).wf = true) ∧ (Lit.int .u32 x.f3).wf = true ∧ (Lit.int .u32 x.f4).wf = true ∧ (Lit.int .i64 x.f5).wf = true ∧ (Lit.int .u32 x.f6).wf = true
theorem opens_T30 {H : Type} {enc : TypeId × Value → H} {w : World} {base : Nat} {spare : Nat → Bool} {held : Bool} : Opens enc Try.prog w base spare held k30 30 good30 := by
  intro fuel cs y h
  obtain ⟨xs, n, _, _, hlen, hxl, hf⟩ := DataW.trod_struct Try.underlying30 h
  have hcs : cs.length = 8 := hlen.trans (by kernel_rfl)
  have h0 := hf 0 _ rfl
  obtain ⟨y0, e0⟩ : ∃ y_, xs[0]? = some y_ := ⟨_, List.getElem?_eq_getElem (by rw [hxl]; decide)⟩
  rw [e0] at h0
  have q0 : DataW.trod enc Try.prog w base spare held n 28 ((cs.drop 0).take 2) = some y0 := (congrArg (fun z => DataW.trod enc Try.prog w base spare held n 28 ((cs.drop 0).take z)) (show 2 = Try.prog.cellsOf 28 from by kernel_rfl)).trans h0
  obtain ⟨x0, k0_, g0⟩ := opens_T28 _ _ _ q0
  have h1 := hf 1 _ rfl
  obtain ⟨y1, e1⟩ : ∃ y_, xs[1]? = some y_ := ⟨_, List.getElem?_eq_getElem (by rw [hxl]; decide)⟩
  rw [e1] at h1
  have q1 : DataW.trod enc Try.prog w base spare held n 23 ((cs.drop 2).take 1) = some y1 := (congrArg (fun z => DataW.trod enc Try.prog w base spare held n 23 ((cs.drop 2).take z)) (show 1 = Try.prog.cellsOf 23 from by kernel_rfl)).trans h1
  obtain ⟨x1, k1_, g1⟩ := (opens_slice Try.underlying23 (by kernel_rfl) (opens_int Try.underlying22)) _ _ _ q1
  have h2 := hf 2 _ rfl
  obtain ⟨y2, e2⟩ : ∃ y_, xs[2]? = some y_ := ⟨_, List.getElem?_eq_getElem (by rw [hxl]; decide)⟩
  rw [e2] at h2
  have q2 : DataW.trod enc Try.prog w base spare held n 23 ((cs.drop 3).take 1) = some y2 := (congrArg (fun z => DataW.trod enc Try.prog w base spare held n 23 ((cs.drop 3).take z)) (show 1 = Try.prog.cellsOf 23 from by kernel_rfl)).trans h2
  obtain ⟨x2, k2_, g2⟩ := (opens_slice Try.underlying23 (by kernel_rfl) (opens_int Try.underlying22)) _ _ _ q2
  have h3 := hf 3 _ rfl
  obtain ⟨y3, e3⟩ : ∃ y_, xs[3]? = some y_ := ⟨_, List.getElem?_eq_getElem (by rw [hxl]; decide)⟩
  rw [e3] at h3
  have q3 : DataW.trod enc Try.prog w base spare held n 22 ((cs.drop 4).take 1) = some y3 := (congrArg (fun z => DataW.trod enc Try.prog w base spare held n 22 ((cs.drop 4).take z)) (show 1 = Try.prog.cellsOf 22 from by kernel_rfl)).trans h3
  obtain ⟨x3, k3_, g3⟩ := (opens_int Try.underlying22) _ _ _ q3
  have h4 := hf 4 _ rfl
  obtain ⟨y4, e4⟩ : ∃ y_, xs[4]? = some y_ := ⟨_, List.getElem?_eq_getElem (by rw [hxl]; decide)⟩
  rw [e4] at h4
  have q4 : DataW.trod enc Try.prog w base spare held n 22 ((cs.drop 5).take 1) = some y4 := (congrArg (fun z => DataW.trod enc Try.prog w base spare held n 22 ((cs.drop 5).take z)) (show 1 = Try.prog.cellsOf 22 from by kernel_rfl)).trans h4
  obtain ⟨x4, k4_, g4⟩ := (opens_int Try.underlying22) _ _ _ q4
  have h5 := hf 5 _ rfl
  obtain ⟨y5, e5⟩ : ∃ y_, xs[5]? = some y_ := ⟨_, List.getElem?_eq_getElem (by rw [hxl]; decide)⟩
  rw [e5] at h5
  have q5 : DataW.trod enc Try.prog w base spare held n 3 ((cs.drop 6).take 1) = some y5 := (congrArg (fun z => DataW.trod enc Try.prog w base spare held n 3 ((cs.drop 6).take z)) (show 1 = Try.prog.cellsOf 3 from by kernel_rfl)).trans h5
  obtain ⟨x5, k5_, g5⟩ := (opens_int Try.underlying3) _ _ _ q5
  have h6 := hf 6 _ rfl
  obtain ⟨y6, e6⟩ : ∃ y_, xs[6]? = some y_ := ⟨_, List.getElem?_eq_getElem (by rw [hxl]; decide)⟩
  rw [e6] at h6
  have q6 : DataW.trod enc Try.prog w base spare held n 22 ((cs.drop 7).take 1) = some y6 := (congrArg (fun z => DataW.trod enc Try.prog w base spare held n 22 ((cs.drop 7).take z)) (show 1 = Try.prog.cellsOf 22 from by kernel_rfl)).trans h6
  obtain ⟨x6, k6_, g6⟩ := (opens_int Try.underlying22) _ _ _ q6
  have s0 : cs.drop 0 = (cs.drop 0).take 2 ++ cs.drop 2 := by have e_ := (List.take_append_drop 2 (cs.drop 0)).symm; rwa [List.drop_drop] at e_
  have s1 : cs.drop 2 = (cs.drop 2).take 1 ++ cs.drop 3 := by have e_ := (List.take_append_drop 1 (cs.drop 2)).symm; rwa [List.drop_drop] at e_
  have s2 : cs.drop 3 = (cs.drop 3).take 1 ++ cs.drop 4 := by have e_ := (List.take_append_drop 1 (cs.drop 3)).symm; rwa [List.drop_drop] at e_
  have s3 : cs.drop 4 = (cs.drop 4).take 1 ++ cs.drop 5 := by have e_ := (List.take_append_drop 1 (cs.drop 4)).symm; rwa [List.drop_drop] at e_
  have s4 : cs.drop 5 = (cs.drop 5).take 1 ++ cs.drop 6 := by have e_ := (List.take_append_drop 1 (cs.drop 5)).symm; rwa [List.drop_drop] at e_
  have s5 : cs.drop 6 = (cs.drop 6).take 1 ++ cs.drop 7 := by have e_ := (List.take_append_drop 1 (cs.drop 6)).symm; rwa [List.drop_drop] at e_
  have s6 : cs.drop 7 = (cs.drop 7).take 1 := (List.take_of_length_le (by rw [List.length_drop, hcs]; decide)).symm
  exact ⟨⟨x0, x1, x2, x3, x4, x5, x6⟩, ⟨(cs.drop 0).take 2, cs.drop 2, (show cs = _ from s0), k0_, ⟨(cs.drop 2).take 1, cs.drop 3, s1, k1_, ⟨(cs.drop 3).take 1, cs.drop 4, s2, k2_, ⟨(cs.drop 4).take 1, cs.drop 5, s3, k3_, ⟨(cs.drop 5).take 1, cs.drop 6, s4, k4_, ⟨(cs.drop 6).take 1, cs.drop 7, s5, k5_, (by rw [s6]; exact k6_)⟩⟩⟩⟩⟩⟩, g0, g1, g2, g3, g4, g5, g6⟩
end Go.Proofs.Ytgelpccjdndfoaa.P

namespace Go.Proofs.Ytgelpccjdndfoaa.P
open Go.RowKit Go.Proofs.YtgelpccjdndfoaaW.PrintWords Go.Proofs.YtgelpccjdndfoaaW.PrintMore
set_option linter.unusedVariables false
set_option linter.unusedSimpArgs false
theorem wr (i : Int) (h0 : -9223372036854775808 ≤ i) (h1 : i ≤ 9223372036854775807) : wrap64 i = i := by unfold wrap64; omega
theorem wrN (i : Nat) (h : i < 9223372036854775807) : wrap64 ((i : Int) + 1) = ((i + 1 : Nat) : Int) := by rw [wr _ (by omega) (by omega)]; omega
theorem rdI (l : List Int) (i : Nat) (h : i < l.length) : rd l (i : Int) = l[i] := by
  unfold rd
  rw [Int.toNat_natCast, List.getD_eq_getElem?_getD, List.getElem?_eq_getElem h]
  rfl
def U32 (a : Int) : Prop := 0 ≤ a ∧ a ≤ 4294967295
def I64 (a : Int) : Prop := -9223372036854775808 ≤ a ∧ a ≤ 9223372036854775807
theorem u32_of {a : Int} (h : (Lit.int .u32 a).wf = true) : U32 a := by
  simp [Lit.wf, IntKind.min, IntKind.max, IntKind.signed, IntKind.bits] at h
  unfold U32
  omega
theorem i64_of {a : Int} (h : (Lit.int .i64 a).wf = true) : I64 a := by
  simp [Lit.wf, IntKind.min, IntKind.max, IntKind.signed, IntKind.bits] at h
  unfold I64
  omega
theorem U32.wr {a : Int} (h : U32 a) : wrap64 a = a := by obtain ⟨h0, h1⟩ := h; exact Go.Proofs.Ytgelpccjdndfoaa.P.wr a (by omega) (by omega)
/-- A list of numbers of 32 bits, no longer than memory has it. -/
def LU (l : List Int) : Prop := l.length ≤ 9223372036854775807 ∧ ∀ z ∈ l, U32 z
theorem lu_of {l : List Int} (h : l.length ≤ 9223372036854775807 ∧ ∀ z_ ∈ l, (Lit.int .u32 z_).wf = true) : LU l := ⟨h.1, fun z hz => u32_of (h.2 z hz)⟩
/-! Which comes first. -/
def cmpI (a b : Int) : Int := if a < b then -1 else if a > b then 1 else 0
def listC : List Int → List Int → Int
  | [], [] => 0
  | [], _ :: _ => -1
  | _ :: _, [] => 1
  | a :: s, b :: t => if cmpI a b = 0 then listC s t else cmpI a b
def firstNZ : List Int → Int
  | [] => 0
  | a :: s => if a = 0 then firstNZ s else a
/-- What an order's answer has. -/
structure Ord {α : Type} (c : α → α → Int) : Prop where
  rng : ∀ a b, c a b = -1 ∨ c a b = 0 ∨ c a b = 1
  anti : ∀ a b, c b a = - c a b
  eq0 : ∀ a b, c a b = 0 → a = b
  trans : ∀ a b d, c a b ≤ 0 → c b d ≤ 0 → c a d ≤ 0
theorem Ord.self {α : Type} {c : α → α → Int} (h : Ord c) (a : α) : c a a = 0 := by have := h.anti a a; omega
theorem cmpI_ord : Ord cmpI where
  rng a b := by unfold cmpI; split <;> (try split) <;> omega
  anti a b := by unfold cmpI; split <;> split <;> (try split) <;> (try split) <;> omega
  eq0 a b h := by unfold cmpI at h; split at h <;> (try split at h) <;> omega
  trans a b d h1 h2 := by
    unfold cmpI at *
    split at h1 <;> (try split at h1) <;> split at h2 <;> (try split at h2) <;> split <;> (try split) <;> omega
def lex {α β : Type} (c1 : α → α → Int) (c2 : β → β → Int) (a b : α × β) : Int := if c1 a.1 b.1 = 0 then c2 a.2 b.2 else c1 a.1 b.1
theorem Ord.lex {α β : Type} {c1 : α → α → Int} {c2 : β → β → Int} (h1 : Ord c1) (h2 : Ord c2) : Ord (lex c1 c2) where
  rng a b := by unfold P.lex; split; exact h2.rng _ _; exact h1.rng _ _
  anti a b := by
    unfold P.lex
    have e := h1.anti a.1 b.1
    by_cases h : c1 a.1 b.1 = 0
    · rw [if_pos h, if_pos (by omega)]; exact h2.anti _ _
    · rw [if_neg h, if_neg (by omega)]; exact e
  eq0 a b h := by
    unfold P.lex at h
    by_cases h0 : c1 a.1 b.1 = 0
    · rw [if_pos h0] at h
      exact Prod.ext (h1.eq0 _ _ h0) (h2.eq0 _ _ h)
    · rw [if_neg h0] at h; exact absurd h h0
  trans a b d ha hb := by
    unfold P.lex at *
    by_cases e1 : c1 a.1 b.1 = 0
    · rw [if_pos e1] at ha
      rw [h1.eq0 _ _ e1]
      by_cases e2 : c1 b.1 d.1 = 0
      · rw [if_pos e2] at hb ⊢; exact h2.trans _ _ _ ha hb
      · rw [if_neg e2] at hb ⊢; exact hb
    · rw [if_neg e1] at ha
      by_cases e2 : c1 b.1 d.1 = 0
      · rw [if_pos e2] at hb
        rw [← h1.eq0 _ _ e2, if_neg e1]; exact ha
      · rw [if_neg e2] at hb
        have t := h1.trans _ _ _ ha hb
        by_cases e3 : c1 a.1 d.1 = 0
        · have := h1.eq0 _ _ e3
          have := h1.anti a.1 b.1
          rw [← h1.eq0 _ _ e3] at hb
          omega
        · rw [if_neg e3]; exact t
theorem listC_rng : ∀ a b, listC a b = -1 ∨ listC a b = 0 ∨ listC a b = 1
  | [], [] => by simp [listC]
  | [], _ :: _ => by simp [listC]
  | _ :: _, [] => by simp [listC]
  | a :: s, b :: t => by
    simp only [listC]
    split
    · exact listC_rng s t
    · exact cmpI_ord.rng a b
theorem listC_anti : ∀ a b, listC b a = - listC a b
  | [], [] => by simp [listC]
  | [], _ :: _ => by simp [listC]
  | _ :: _, [] => by simp [listC]
  | a :: s, b :: t => by
    simp only [listC]
    have e := cmpI_ord.anti a b
    by_cases h : cmpI a b = 0
    · rw [if_pos h, if_pos (by omega)]; exact listC_anti s t
    · rw [if_neg h, if_neg (by omega)]; exact e
theorem listC_eq0 : ∀ a b, listC a b = 0 → a = b
  | [], [] => fun _ => rfl
  | [], _ :: _ => by simp [listC]
  | _ :: _, [] => by simp [listC]
  | a :: s, b :: t => by
    simp only [listC]
    by_cases h : cmpI a b = 0
    · rw [if_pos h]
      intro h2
      rw [cmpI_ord.eq0 a b h, listC_eq0 s t h2]
    · rw [if_neg h]; exact fun h2 => absurd h2 h
theorem listC_trans : ∀ a b d, listC a b ≤ 0 → listC b d ≤ 0 → listC a d ≤ 0
  | [], _, [] => by simp [listC]
  | [], _, _ :: _ => by simp [listC]
  | _ :: _, [], _ => by simp [listC]
  | _ :: _, _ :: _, [] => by simp [listC]
  | a :: s, b :: t, d :: u => by
    intro h1 h2
    have k : ∀ x y : Int, ∀ p q : List Int, listC (x :: p) (y :: q) = if cmpI x y = 0 then listC p q else cmpI x y := fun _ _ _ _ => rfl
    rw [k] at h1 h2 ⊢
    by_cases e1 : cmpI a b = 0
    · rw [if_pos e1] at h1
      rw [cmpI_ord.eq0 a b e1]
      by_cases e2 : cmpI b d = 0
      · rw [if_pos e2] at h2 ⊢; exact listC_trans s t u h1 h2
      · rw [if_neg e2] at h2 ⊢; exact h2
    · rw [if_neg e1] at h1
      by_cases e2 : cmpI b d = 0
      · rw [← cmpI_ord.eq0 b d e2, if_neg e1]; exact h1
      · rw [if_neg e2] at h2
        have t := cmpI_ord.trans a b d h1 h2
        by_cases e3 : cmpI a d = 0
        · have := cmpI_ord.anti a b
          rw [← cmpI_ord.eq0 a d e3] at h2
          omega
        · rw [if_neg e3]; exact t
theorem listC_ord : Ord listC := ⟨listC_rng, listC_anti, listC_eq0, listC_trans⟩
abbrev R8 := Int × Int × List Int × List Int × Int × Int × Int × Int
def cmpR (a b : R8) : Int := firstNZ [cmpI a.1 b.1, cmpI a.2.1 b.2.1, listC a.2.2.1 b.2.2.1, listC a.2.2.2.1 b.2.2.2.1, cmpI a.2.2.2.2.1 b.2.2.2.2.1, cmpI a.2.2.2.2.2.1 b.2.2.2.2.2.1, cmpI a.2.2.2.2.2.2.1 b.2.2.2.2.2.2.1, cmpI a.2.2.2.2.2.2.2 b.2.2.2.2.2.2.2]
theorem cmpR_eq : cmpR = lex cmpI (lex cmpI (lex listC (lex listC (lex cmpI (lex cmpI (lex cmpI cmpI)))))) := by
  funext a b
  have z : ∀ x : Int, (if x = 0 then (0 : Int) else x) = x := fun x => by split <;> omega
  simp only [cmpR, firstNZ, lex, z]
theorem cmpR_ord : Ord cmpR := by
  rw [cmpR_eq]
  exact cmpI_ord.lex (cmpI_ord.lex (listC_ord.lex (listC_ord.lex (cmpI_ord.lex (cmpI_ord.lex (cmpI_ord.lex cmpI_ord))))))
/-! What the code computes. -/
theorem number_f (a b : Int) : q10z.f a b = some (cmpI a b) := by
  unfold q10z.f cmpI
  split
  · rfl
  · split <;> rfl
theorem cmpI_self (a : Int) : cmpI a a = 0 := cmpI_ord.self a
theorem drop_ge (l : List Int) (i : Nat) (h : l.length ≤ i) : l.drop i = [] := List.drop_eq_nil_of_le h
theorem list_end (a b : List Int) (i : Nat) (ha : i ≤ a.length) (hb : i ≤ b.length) (h : ¬ (i < a.length ∧ i < b.length)) : cmpI (a.length : Int) (b.length : Int) = listC (a.drop i) (b.drop i) := by
  by_cases h1 : i < a.length
  · have h2 : ¬ i < b.length := fun h2 => h ⟨h1, h2⟩
    rw [drop_ge b i (by omega), List.drop_eq_getElem_cons h1]
    simp only [listC]
    unfold cmpI
    rw [if_neg (by omega), if_pos (by omega)]
  · rw [drop_ge a i (by omega)]
    by_cases h2 : i < b.length
    · rw [List.drop_eq_getElem_cons h2]
      simp only [listC]
      unfold cmpI
      rw [if_pos (by omega)]
    · rw [drop_ge b i (by omega)]
      simp only [listC]
      unfold cmpI
      rw [if_neg (by omega), if_neg (by omega)]
theorem list_l0 (a b : List Int) (ha : LU a) (hb : LU b) : ∀ (d i : Nat), i + d = a.length → i ≤ b.length → Ev (fun k => q11z.l0 k a b (i : Int)) (listC (a.drop i) (b.drop i))
  | 0, i, hi, hib => by
    refine Ev.step (f := fun k => q11z.j1 k a b (i : Int) false) (fun k => ?_) ?_
    · simp only [q11z.l0]
      rw [if_neg (by omega)]
    · refine Ev.step (f := fun _ => some (listC (a.drop i) (b.drop i))) (fun k => ?_) (Ev.now _)
      simp only [q11z.j1, Bool.false_eq_true, if_false, number_f, Option.bind_some, list_end a b i (by omega) hib (by omega)]
  | d + 1, i, hi, hib => by
    have hia : i < a.length := by omega
    have hl := ha.1
    by_cases h : i < b.length
    · have ih := list_l0 a b ha hb d (i + 1) (by omega) (by omega)
      refine Ev.step (f := fun k => q11z.j1 k a b (i : Int) true) (fun k => ?_) ?_
      · simp only [q11z.l0]
        rw [if_pos (by omega), decide_eq_true (by omega)]
      · rw [List.drop_eq_getElem_cons hia, List.drop_eq_getElem_cons h]
        by_cases e : a[i] = b[i]
        · refine Ev.step (f := fun k => q11z.l0 k a b ((i + 1 : Nat) : Int)) (fun k => ?_) ?_
          · simp only [q11z.j1]
            rw [if_pos trivial, if_pos (by omega), if_pos (by omega), if_pos (by omega), rdI a i hia, rdI b i h, if_pos e, wrN i (by omega)]
          · simp only [listC, e, cmpI_self, if_true]; exact ih
        · have e0 : cmpI a[i] b[i] ≠ 0 := fun h0 => e (cmpI_ord.eq0 _ _ h0)
          refine Ev.step (f := fun _ => some (cmpI a[i] b[i])) (fun k => ?_) ?_
          · simp only [q11z.j1]
            rw [if_pos trivial, if_pos (by omega), if_pos (by omega), if_pos (by omega), rdI a i hia, rdI b i h, if_neg e, (ha.2 _ (List.getElem_mem hia)).wr, (hb.2 _ (List.getElem_mem h)).wr, number_f, Option.bind_some]
          · simp only [listC, e0, if_false]; exact Ev.now _
    · refine Ev.step (f := fun k => q11z.j1 k a b (i : Int) false) (fun k => ?_) ?_
      · simp only [q11z.l0]
        rw [if_pos (by omega), decide_eq_false (by omega)]
      · refine Ev.step (f := fun _ => some (listC (a.drop i) (b.drop i))) (fun k => ?_) (Ev.now _)
        simp only [q11z.j1, Bool.false_eq_true, if_false, number_f, Option.bind_some, list_end a b i (by omega) hib (by omega)]
theorem list_ev (a b : List Int) (ha : LU a) (hb : LU b) : Ev (fun k => q11z.f k a b) (listC a b) := list_l0 a b ha hb a.length 0 (by omega) (by omega)
theorem cmp_step (c0 c1 c2 c3 c4 c5 c6 c7 : Int) (i : Nat) (hi : i < 8) (r : Int) (h : Ev (fun k => q12z.l0 k ((i + 1 : Nat) : Int) c0 c1 c2 c3 c4 c5 c6 c7) r) :
    Ev (fun k => q12z.l0 k (i : Int) c0 c1 c2 c3 c4 c5 c6 c7) (if arrA68 c0 c1 c2 c3 c4 c5 c6 c7 (i : Int) = 0 then r else arrA68 c0 c1 c2 c3 c4 c5 c6 c7 (i : Int)) := by
  by_cases e : arrA68 c0 c1 c2 c3 c4 c5 c6 c7 (i : Int) = 0
  · rw [if_pos e]
    refine Ev.step (f := fun k => q12z.l0 k ((i + 1 : Nat) : Int) c0 c1 c2 c3 c4 c5 c6 c7) (fun k => ?_) h
    simp only [q12z.l0]
    rw [if_pos (by omega), if_pos (by omega), if_pos e, wrN i (by omega)]
  · rw [if_neg e]
    refine Ev.step (f := fun _ => some (arrA68 c0 c1 c2 c3 c4 c5 c6 c7 (i : Int))) (fun k => ?_) (Ev.now _)
    simp only [q12z.l0]
    rw [if_pos (by omega), if_pos (by omega), if_neg e]
theorem cmp_l0 (c0 c1 c2 c3 c4 c5 c6 c7 : Int) : Ev (fun k => q12z.l0 k 0 c0 c1 c2 c3 c4 c5 c6 c7) (firstNZ [c0, c1, c2, c3, c4, c5, c6, c7]) := by
  have h8 : Ev (fun k => q12z.l0 k ((8 : Nat) : Int) c0 c1 c2 c3 c4 c5 c6 c7) 0 := Ev.step (f := fun _ => some 0) (fun k => rfl) (Ev.now _)
  exact cmp_step c0 c1 c2 c3 c4 c5 c6 c7 0 (by omega) _ (cmp_step c0 c1 c2 c3 c4 c5 c6 c7 1 (by omega) _ (cmp_step c0 c1 c2 c3 c4 c5 c6 c7 2 (by omega) _ (cmp_step c0 c1 c2 c3 c4 c5 c6 c7 3 (by omega) _ (cmp_step c0 c1 c2 c3 c4 c5 c6 c7 4 (by omega) _ (cmp_step c0 c1 c2 c3 c4 c5 c6 c7 5 (by omega) _ (cmp_step c0 c1 c2 c3 c4 c5 c6 c7 6 (by omega) _ (cmp_step c0 c1 c2 c3 c4 c5 c6 c7 7 (by omega) _ h8)))))))
/-- What a route's cells may hold. -/
def RU (a : R8) : Prop := U32 a.1 ∧ I64 a.2.1 ∧ LU a.2.2.1 ∧ LU a.2.2.2.1 ∧ U32 a.2.2.2.2.1 ∧ U32 a.2.2.2.2.2.1 ∧ I64 a.2.2.2.2.2.2.1 ∧ U32 a.2.2.2.2.2.2.2
theorem refCmp_ev (a b : R8) (ha : RU a) (hb : RU b) : Ev (fun k => q12z.f k a.1 a.2.1 a.2.2.1 a.2.2.2.1 a.2.2.2.2.1 a.2.2.2.2.2.1 a.2.2.2.2.2.2.1 a.2.2.2.2.2.2.2 b.1 b.2.1 b.2.2.1 b.2.2.2.1 b.2.2.2.2.1 b.2.2.2.2.2.1 b.2.2.2.2.2.2.1 b.2.2.2.2.2.2.2) (cmpR a b) := by
  obtain ⟨a0, a1, a2, a3, a4, a5, a6, a7⟩ := ha
  obtain ⟨b0, b1, b2, b3, b4, b5, b6, b7⟩ := hb
  obtain ⟨K1, e1⟩ := list_ev a.2.2.1 b.2.2.1 a2 b2
  obtain ⟨K2, e2⟩ := list_ev a.2.2.2.1 b.2.2.2.1 a3 b3
  obtain ⟨K3, e3⟩ := cmp_l0 (cmpI a.1 b.1) (cmpI a.2.1 b.2.1) (listC a.2.2.1 b.2.2.1) (listC a.2.2.2.1 b.2.2.2.1) (cmpI a.2.2.2.2.1 b.2.2.2.2.1) (cmpI a.2.2.2.2.2.1 b.2.2.2.2.2.1) (cmpI a.2.2.2.2.2.2.1 b.2.2.2.2.2.2.1) (cmpI a.2.2.2.2.2.2.2 b.2.2.2.2.2.2.2)
  refine ⟨K1 + K2 + K3, fun k hk => ?_⟩
  simp only [q12z.f, number_f, a0.wr, b0.wr, a4.wr, b4.wr, a5.wr, b5.wr, a7.wr, b7.wr, e1 k (by omega), e2 k (by omega), Option.bind_some]
  exact e3 k (by omega)
end Go.Proofs.Ytgelpccjdndfoaa.P

namespace Go.Proofs.Ytgelpccjdndfoaa.P
open Go.RowKit Go.Proofs.YtgelpccjdndfoaaW.PrintWords
/-! Eventually: facts of callees used at the same round. -/
theorem Ev.use {α β : Type} {g : Nat → Option α} {F G : Nat → Option β} {a : α} {r : β} (h : Ev g a) (hG : Ev G r) (hF : ∀ k, g k = some a → F (k + 1) = G k) : Ev F r := by
  obtain ⟨K, h⟩ := h
  obtain ⟨K', hG⟩ := hG
  refine ⟨max K K' + 1, fun n hn => ?_⟩
  obtain ⟨m, rfl⟩ : ∃ m, n = m + 1 := ⟨n - 1, by omega⟩
  rw [hF m (h m (by omega))]
  exact hG m (by omega)
theorem Ev.use2 {α α' β : Type} {g : Nat → Option α} {g' : Nat → Option α'} {F G : Nat → Option β} {a : α} {a' : α'} {r : β} (h : Ev g a) (h' : Ev g' a') (hG : Ev G r) (hF : ∀ k, g k = some a → g' k = some a' → F (k + 1) = G k) : Ev F r := by
  obtain ⟨K, h⟩ := h
  obtain ⟨K2, h'⟩ := h'
  obtain ⟨K', hG⟩ := hG
  refine ⟨max (max K K2) K' + 1, fun n hn => ?_⟩
  obtain ⟨m, rfl⟩ : ∃ m, n = m + 1 := ⟨n - 1, by omega⟩
  rw [hF m (h m (by omega)) (h' m (by omega))]
  exact hG m (by omega)
theorem Ev.use3 {α α' α2 β : Type} {g : Nat → Option α} {g' : Nat → Option α'} {g2 : Nat → Option α2} {F G : Nat → Option β} {a : α} {a' : α'} {a2 : α2} {r : β} (h : Ev g a) (h' : Ev g' a') (h2 : Ev g2 a2) (hG : Ev G r) (hF : ∀ k, g k = some a → g' k = some a' → g2 k = some a2 → F (k + 1) = G k) : Ev F r := by
  obtain ⟨K, h⟩ := h
  obtain ⟨K2, h'⟩ := h'
  obtain ⟨K3, h2⟩ := h2
  obtain ⟨K', hG⟩ := hG
  refine ⟨max (max K K2) (max K3 K') + 1, fun n hn => ?_⟩
  obtain ⟨m, rfl⟩ : ∃ m, n = m + 1 := ⟨n - 1, by omega⟩
  rw [hF m (h m (by omega)) (h' m (by omega)) (h2 m (by omega))]
  exact hG m (by omega)
/-- The same without a step. -/
theorem Ev.with {α β : Type} {g : Nat → Option α} {F G : Nat → Option β} {a : α} {r : β} (h : Ev g a) (hG : Ev G r) (hF : ∀ k, g k = some a → F k = G k) : Ev F r := by
  obtain ⟨K, h⟩ := h
  obtain ⟨K', hG⟩ := hG
  exact ⟨max K K', fun n hn => by rw [hF n (h n (by omega))]; exact hG n (by omega)⟩
theorem Ev.with2 {α α' β : Type} {g : Nat → Option α} {g' : Nat → Option α'} {F G : Nat → Option β} {a : α} {a' : α'} {r : β} (h : Ev g a) (h' : Ev g' a') (hG : Ev G r) (hF : ∀ k, g k = some a → g' k = some a' → F k = G k) : Ev F r := by
  obtain ⟨K, h⟩ := h
  obtain ⟨K2, h'⟩ := h'
  obtain ⟨K', hG⟩ := hG
  exact ⟨max (max K K2) K', fun n hn => by rw [hF n (h n (by omega)) (h' n (by omega))]; exact hG n (by omega)⟩
/-- The last step. -/
theorem Ev.last {β : Type} {F : Nat → Option β} {r : β} (hF : ∀ k, F (k + 1) = some r) : Ev F r := ⟨1, fun n hn => by
  obtain ⟨m, rfl⟩ : ∃ m, n = m + 1 := ⟨n - 1, by omega⟩
  exact hF m⟩
/-- As a pair, of two. -/
theorem Ev.and {α α' : Type} {g : Nat → Option α} {g' : Nat → Option α'} {a : α} {a' : α'} (h : Ev g a) (h' : Ev g' a') : ∃ K, ∀ k, K ≤ k → g k = some a ∧ g' k = some a' := by
  obtain ⟨K, h⟩ := h
  obtain ⟨K2, h'⟩ := h'
  exact ⟨max K K2, fun k hk => ⟨h k (by omega), h' k (by omega)⟩⟩
end Go.Proofs.Ytgelpccjdndfoaa.P

namespace Go.Proofs.Ytgelpccjdndfoaa.P
open Go.RowKit Go.Proofs.YtgelpccjdndfoaaW.PrintWords Go.Proofs.YtgelpccjdndfoaaW.PrintMore
set_option linter.unusedVariables false
set_option linter.unusedSimpArgs false
/-! Lists of communities: what the code and the document say. -/
def BoxU (b : S50) : Prop := U32 b.f0 ∧ U32 b.f1
theorem boxU_of {b : S50} (h : good50 b) : BoxU b := ⟨u32_of h.1, u32_of h.2⟩
def inS (n : Int) (s : S50) : Bool := inB s.f0.toNat s.f1.toNat n.toNat
theorem u32_nat {a : Int} (h : U32 a) : ∃ n : Nat, a = (n : Int) ∧ n < 4294967296 := ⟨a.toNat, by have := h.1; omega, by have := h.2; have := h.1; omega⟩
theorem in_f (b : S50) (hb : BoxU b) (c : Int) (hc : U32 c) : plane_In.f b.f0 b.f1 c = some (inS c b) := by
  have h1 : u32B b.f0 = true := by unfold u32B; have := hb.1; unfold U32 at this; simp; omega
  have h2 : u32B b.f1 = true := by unfold u32B; have := hb.2; unfold U32 at this; simp; omega
  have h3 : u32B c = true := by unfold u32B; unfold U32 at hc; simp; omega
  unfold plane_In.f
  rw [h1, h2, h3, if_pos (by rfl)]
  rfl
theorem refIn_f (b : S50) (hb : BoxU b) (c : Int) (hc : U32 c) : q16z.f b.f0 b.f1 c = some (inS c b) := by
  obtain ⟨lo, e1, h1⟩ := u32_nat hb.1
  obtain ⟨hi, e2, h2⟩ := u32_nat hb.2
  obtain ⟨c, rfl, h3⟩ := u32_nat hc
  unfold inS
  rw [e1, e2]
  simp only [Int.toNat_natCast]
  unfold q16z.f inB withinN
  rw [quoN lo h1, quoN hi h2, quoN c h3, remN lo, remN hi, remN c]
  by_cases c1 : lo / 65536 ≤ c / 65536
  · rw [if_pos (by omega), decide_eq_true c1, Bool.true_and]
    by_cases c2 : c / 65536 ≤ hi / 65536
    · rw [if_pos (by omega), decide_eq_true c2, Bool.true_and]
      by_cases c3 : lo % 65536 ≤ c % 65536
      · rw [if_pos (by omega), decide_eq_true c3, Bool.true_and]
        congr 1
        rw [decide_eq_decide]
        omega
      · rw [if_neg (by omega), decide_eq_false c3, Bool.false_and]
    · rw [if_neg (by omega), decide_eq_false c2]
      simp
  · rw [if_neg (by omega), decide_eq_false c1, Bool.false_and]
def hasB (b : S50) (cs : List Int) : Bool := cs.any (fun c => inS c b)
def allB (l : List S50) (cs : List Int) : Bool := l.all (fun b => hasB b cs)
def takesB : List S53 → List Int → Bool
  | [], _ => false
  | e :: l, cs => if allB e.f1 cs = true then !e.f0 else takesB l cs
def EntU (e : S53) : Prop := e.f1.length ≤ 9223372036854775807 ∧ ∀ b ∈ e.f1, BoxU b
def ComU (l : List S53) : Prop := l.length ≤ 9223372036854775807 ∧ ∀ e ∈ l, EntU e
theorem comU_of {l : List S53} (h : l.length ≤ 9223372036854775807 ∧ ∀ z_ ∈ l, good53 z_) : ComU l := ⟨h.1, fun e he => ⟨(h.2 e he).2.1, fun b hb => boxU_of ((h.2 e he).2.2 b hb)⟩⟩
theorem has_f (b : S50) (hb : BoxU b) (cs : List Int) (hc : LU cs) : cond_has.f b.f0 b.f1 cs = some (hasB b cs) := by
  unfold cond_has.f
  rw [if_pos hc.1]
  exact anyM_some _ _ cs (fun c h => in_f b hb c (hc.2 c h))
theorem not_any_not {α : Type} (l : List α) (p : α → Bool) : (!l.any (fun b => !p b)) = l.all p := by
  induction l with
  | nil => rfl
  | cons a l ih => simp only [List.any_cons, List.all_cons, Bool.not_or, Bool.not_not, ih]
theorem ent_f (e : S53) (he : EntU e) (cs : List Int) (hc : LU cs) : entM cs e = some (allB e.f1 cs) := by
  unfold entM
  rw [if_pos he.1, anyM_some _ (fun b => !hasB b cs) e.f1 (fun b hb => by rw [has_f b (he.2 b hb) cs hc]; rfl), Option.map_some, not_any_not]
  rfl
theorem takes_f0 (cs : List Int) (hc : LU cs) : ∀ l : List S53, (∀ e ∈ l, EntU e) → takesM cs l = some (takesB l cs)
  | [], _ => rfl
  | e :: l, h => by
    simp only [takesM, takesB]
    rw [ent_f e (h e List.mem_cons_self) cs hc, Option.bind_some]
    cases allB e.f1 cs with
    | true => rfl
    | false => simp only [Bool.false_eq_true, if_false]; exact takes_f0 cs hc l (fun x hx => h x (List.mem_cons_of_mem _ hx))
theorem takes_f (l : List S53) (hl : ComU l) (cs : List Int) (hc : LU cs) : cond_TakesComms.f l cs = some (takesB l cs) := by
  unfold cond_TakesComms.f
  rw [if_pos hl.1]
  exact takes_f0 cs hc l hl.2
/-! The document's. -/
theorem rdB (l : List S50) (i : Nat) (h : i < l.length) : rd_T50 l (i : Int) = l[i] := by
  unfold rd_T50
  rw [Int.toNat_natCast, List.getD_eq_getElem?_getD, List.getElem?_eq_getElem h]
  rfl
theorem all_l1 (cs : List Int) (hc : LU cs) (b : S50) (hb : BoxU b) (l : List S50) (n i : Int) (R : Bool) : ∀ (d j : Nat) (g : Bool), j + d = cs.length →
    Ev (fun k => if (g || (cs.drop j).any (fun c => inS c b)) = true then q17z.l0 k cs l n (wrap64 (i + 1)) else some false) R →
    Ev (fun k => q17z.l1 k cs g l n i cs (cs.length : Int) (j : Int) b.f0 b.f1) R
  | 0, j, g, hj, h => by
    rw [List.drop_eq_nil_of_le (by omega), List.any_nil, Bool.or_false] at h
    refine Ev.step (fun k => ?_) h
    simp only [q17z.l1]
    rw [if_neg (by omega)]
  | d + 1, j, g, hj, h => by
    have hjl : j < cs.length := by omega
    have hlen := hc.1
    have hrd := rdI cs j hjl
    have hu := hc.2 cs[j] (List.getElem_mem hjl)
    rw [List.drop_eq_getElem_cons hjl, List.any_cons] at h
    generalize cs[j] = c at hrd hu h
    have ih := all_l1 cs hc b hb l n i R d (j + 1) (g || inS c b) (by omega) (by simpa only [Bool.or_assoc] using h)
    cases g with
    | true =>
      rw [Bool.true_or] at ih
      refine Ev.step (fun k => ?_) ih
      simp only [q17z.l1, if_true]
      rw [if_pos (by omega), if_pos (by omega), if_pos (by omega), wrN j (by omega)]
    | false =>
      rw [Bool.false_or] at ih
      refine Ev.step (fun k => ?_) ih
      simp only [q17z.l1, Bool.false_eq_true, if_false]
      rw [if_pos (by omega), if_pos (by omega), if_pos (by omega), hrd, refIn_f b hb c hu, Option.bind_some, wrN j (by omega)]
theorem all_l0 (cs : List Int) (hc : LU cs) (l : List S50) (hl : l.length ≤ 9223372036854775807) (hb : ∀ b ∈ l, BoxU b) : ∀ (d i : Nat), i + d = l.length →
    Ev (fun k => q17z.l0 k cs l (l.length : Int) (i : Int)) (allB (l.drop i) cs)
  | 0, i, hi => by
    rw [List.drop_eq_nil_of_le (by omega)]
    refine Ev.last (fun k => ?_)
    simp only [q17z.l0]
    rw [if_neg (by omega)]
    rfl
  | d + 1, i, hi => by
    have hil : i < l.length := by omega
    have hrd := rdB l i hil
    have hu := hb l[i] (List.getElem_mem hil)
    have ih := all_l0 cs hc l hl hb d (i + 1) (by omega)
    rw [List.drop_eq_getElem_cons hil]
    generalize l[i] = b at hrd hu
    have hab : allB (b :: l.drop (i + 1)) cs = (hasB b cs && allB (l.drop (i + 1)) cs) := rfl
    rw [hab]
    have h1 := all_l1 cs hc b hu l (l.length : Int) (i : Int) (hasB b cs && allB (l.drop (i + 1)) cs) cs.length 0 false (by omega) (by
      rw [List.drop_zero, Bool.false_or]
      change Ev (fun k => if hasB b cs = true then _ else _) _
      cases hasB b cs with
      | true =>
        simp only [if_true, Bool.true_and]
        rw [wrN i (by omega)]
        exact ih
      | false => exact Ev.now _)
    refine Ev.step (fun k => ?_) h1
    simp only [q17z.l0]
    rw [if_pos (by omega), if_pos (by omega), if_pos (by omega), hrd]
    rfl
theorem refAll_ev (e : S53) (he : EntU e) (cs : List Int) (hc : LU cs) : Ev (fun k => q17z.f k e.f1 cs) (allB e.f1 cs) := by
  have h := all_l0 cs hc e.f1 he.1 he.2 e.f1.length 0 (by omega)
  rw [List.drop_zero] at h
  exact Ev.congr (fun k => rfl) h
theorem refTakes_l0 (cs : List Int) (hc : LU cs) (l : List S53) (hl : ComU l) : ∀ (d i : Nat), i + d = l.length → Ev (fun k => q18z.l0 k cs l (l.length : Int) (i : Int)) (takesB (l.drop i) cs)
  | 0, i, hi => by
    rw [List.drop_eq_nil_of_le (by omega)]
    refine Ev.last (fun k => ?_)
    simp only [q18z.l0]
    rw [if_neg (by omega)]
    rfl
  | d + 1, i, hi => by
    have hil : i < l.length := by omega
    have hll := hl.1
    have hrd := comm_getD l i hil
    have hu := hl.2 l[i] (List.getElem_mem hil)
    have ih := refTakes_l0 cs hc l hl d (i + 1) (by omega)
    rw [List.drop_eq_getElem_cons hil]
    generalize l[i] = e at hrd hu
    have h1 := refAll_ev e hu cs hc
    simp only [takesB]
    cases ha : allB e.f1 cs with
    | true =>
      rw [ha] at h1
      refine Ev.use h1 (Ev.now _) (fun k e1 => ?_)
      simp only [q18z.l0]
      rw [if_pos (by omega), if_pos (by omega), if_pos (by omega), hrd, e1]
      rfl
    | false =>
      rw [ha] at h1
      refine Ev.use h1 ih (fun k e1 => ?_)
      simp only [q18z.l0]
      rw [if_pos (by omega), if_pos (by omega), if_pos (by omega), hrd, e1, wrN i (by omega)]
      rfl
theorem refTakes_ev (l : List S53) (hl : ComU l) (cs : List Int) (hc : LU cs) : Ev (fun k => q18z.f k l cs) (takesB l cs) := by
  have h := refTakes_l0 cs hc l hl l.length 0 (by omega)
  rw [List.drop_zero] at h
  exact Ev.congr (fun k => rfl) h
end Go.Proofs.Ytgelpccjdndfoaa.P

namespace Go.Proofs.Ytgelpccjdndfoaa.P
open Go.Sort
set_option linter.unusedVariables false
/-! A sorted list with what is alike left out. -/
def cmpU (l : List Int) : List Int := Go.Lib.compactUpTo l.toArray l.length
theorem getB (l : List Int) (i : Nat) (h : i < l.length) : l.toArray[i]! = l[i] := by
  rw [getElem!_pos l.toArray i (by simpa using h)]
  simp
theorem cmpU_lt (l : List Int) (h : l.Pairwise (fun a b : Int => a ≤ b)) : (cmpU l).Pairwise (fun a b : Int => a < b) := by
  unfold cmpU Go.Lib.compactUpTo
  rw [List.pairwise_map, List.pairwise_filter, List.pairwise_iff_getElem]
  intro i j hi hj hij
  simp only [List.getElem_range]
  intro ki kj
  rw [List.length_range] at hi hj
  rw [List.pairwise_iff_getElem] at h
  simp only [Go.Lib.keeps, decide_eq_true_eq] at kj
  rcases kj with kj | kj
  · omega
  · have e : j - 1 + 1 = j := by omega
    rw [getB l i hi, getB l j hj]
    rw [getB l j hj, getB l (j - 1) (by omega)] at kj
    have h1 := h (j - 1) j (by omega) hj (by omega)
    rcases Nat.lt_or_ge i (j - 1) with h2 | h2
    · have h3 := h i (j - 1) hi (by omega) h2
      omega
    · have e2 : i = j - 1 := by omega
      subst e2
      omega
theorem cmpU_sub (l : List Int) (x : Int) (hx : x ∈ cmpU l) : x ∈ l := by
  unfold cmpU Go.Lib.compactUpTo at hx
  rw [List.mem_map] at hx
  obtain ⟨i, hi, rfl⟩ := hx
  have hi' := List.mem_range.1 (List.mem_filter.1 hi).1
  rw [getB l i hi']
  exact List.getElem_mem hi'
theorem cmpU_sup (l : List Int) : ∀ i (h : i < l.length), l[i] ∈ cmpU l := by
  intro i
  induction i with
  | zero =>
    intro h
    unfold cmpU Go.Lib.compactUpTo
    rw [List.mem_map]
    exact ⟨0, List.mem_filter.2 ⟨List.mem_range.2 h, by simp [Go.Lib.keeps]⟩, getB l 0 h⟩
  | succ i ih =>
    intro h
    by_cases e : l[i + 1] = l[i]
    · rw [e]; exact ih (by omega)
    · unfold cmpU Go.Lib.compactUpTo
      rw [List.mem_map]
      refine ⟨i + 1, List.mem_filter.2 ⟨List.mem_range.2 h, ?_⟩, getB l (i + 1) h⟩
      simp only [Go.Lib.keeps, decide_eq_true_eq]
      refine .inr ?_
      rw [getB l (i + 1) h, Nat.add_sub_cancel, getB l i (by omega)]
      exact e
theorem cmpU_mem (l : List Int) (x : Int) : x ∈ cmpU l ↔ x ∈ l := by
  constructor
  · exact cmpU_sub l x
  · intro h
    obtain ⟨i, hi, rfl⟩ := List.getElem_of_mem h
    exact cmpU_sup l i hi
theorem cmpU_le (l : List Int) : (cmpU l).length ≤ l.length := by
  unfold cmpU Go.Lib.compactUpTo
  rw [List.length_map]
  exact Nat.le_trans (List.length_filter_le _ _) (by simp)
theorem lt_unique : ∀ (l r : List Int), l.Pairwise (fun a b : Int => a < b) → r.Pairwise (fun a b : Int => a < b) → (∀ x, x ∈ l ↔ x ∈ r) → l = r
  | [], [], _, _, _ => rfl
  | [], y :: t, _, _, h => by have := (h y).2 (List.mem_cons_self ..); simp at this
  | x :: s, [], _, _, h => by have := (h x).1 (List.mem_cons_self ..); simp at this
  | x :: s, y :: t, h1, h2, h => by
    rw [List.pairwise_cons] at h1 h2
    have hxy : x = y := by
      rcases List.mem_cons.1 ((h x).1 (List.mem_cons_self ..)) with e | e
      · exact e
      · rcases List.mem_cons.1 ((h y).2 (List.mem_cons_self ..)) with e2 | e2
        · exact e2.symm
        · have a1 := h2.1 x e
          have a2 := h1.1 y e2
          omega
    subst hxy
    rw [lt_unique s t h1.2 h2.2]
    intro z
    constructor
    · intro hz
      rcases List.mem_cons.1 ((h z).1 (List.mem_cons_of_mem _ hz)) with e | e
      · have := h1.1 z hz; omega
      · exact e
    · intro hz
      rcases List.mem_cons.1 ((h z).2 (List.mem_cons_of_mem _ hz)) with e | e
      · have := h2.1 z hz; omega
      · exact e
/-- A list's numbers, each once, rising. -/
def setU (l : List Int) : List Int := cmpU (sortU l)
theorem setU_lt (l : List Int) : (setU l).Pairwise (fun a b : Int => a < b) := cmpU_lt _ (sortU_pair l)
theorem setU_mem (l : List Int) (x : Int) : x ∈ setU l ↔ x ∈ l := (cmpU_mem _ x).trans (sortU_mem l x)
theorem setU_le (l : List Int) : (setU l).length ≤ l.length := Nat.le_trans (cmpU_le _) (Nat.le_of_eq (sortU_len l))
end Go.Proofs.Ytgelpccjdndfoaa.P

namespace Go.Proofs.Ytgelpccjdndfoaa.P
open Go.RowKit
set_option linter.unusedVariables false
set_option linter.unusedSimpArgs false
/-! A list of numbers that rise, with one more; with many more. -/
def Rising (l : List Int) : Prop := l.Pairwise (· < ·)
def ins (n : Int) (l : List Int) : List Int :=
  match l.dropWhile (fun a => decide (a < n)) with
  | [] => l ++ [n]
  | a :: r => if a = n then l else l.takeWhile (fun a => decide (a < n)) ++ n :: (a :: r)
theorem ins_split (n : Int) : ∀ l : List Int, l = l.takeWhile (fun a => decide (a < n)) ++ l.dropWhile (fun a => decide (a < n)) := fun l => List.takeWhile_append_dropWhile.symm
theorem tw_lt (n : Int) (l : List Int) : ∀ x ∈ l.takeWhile (fun a => decide (a < n)), x < n := by
  induction l with
  | nil => intro x hx; simp at hx
  | cons a r ih =>
    intro x hx
    rw [List.takeWhile_cons] at hx
    split at hx
    · rename_i h
      rcases List.mem_cons.1 hx with rfl | hx
      · simpa using h
      · exact ih x hx
    · simp at hx
theorem dw_head (n : Int) (l : List Int) (a : Int) (r : List Int) (h : l.dropWhile (fun a => decide (a < n)) = a :: r) : n ≤ a := by
  induction l with
  | nil => simp at h
  | cons b t ih =>
    rw [List.dropWhile_cons] at h
    split at h
    · exact ih h
    · rename_i hb
      obtain ⟨rfl, rfl⟩ := List.cons.inj h
      have : ¬ b < n := by simpa using hb
      omega
theorem mem_ins (n : Int) (l : List Int) (x : Int) : x ∈ ins n l ↔ x = n ∨ x ∈ l := by
  unfold ins
  split
  · simp [or_comm]
  · rename_i a r h
    have hs := ins_split n l
    rw [h] at hs
    split
    · rename_i ha
      subst ha
      constructor
      · exact .inr
      · rintro (rfl | hx)
        · rw [hs]; simp
        · exact hx
    · generalize l.takeWhile (fun a => decide (a < n)) = p at hs
      subst hs
      simp only [List.mem_append, List.mem_cons]
      constructor
      · rintro (h1 | h1 | h1 | h1) <;> simp [h1]
      · rintro (h1 | h1 | h1 | h1) <;> simp [h1]
theorem rising_ins (n : Int) (l : List Int) (hl : Rising l) : Rising (ins n l) := by
  unfold ins
  have hs := ins_split n l
  have ht := tw_lt n l
  split
  · rename_i h
    rw [h, List.append_nil] at hs
    unfold Rising
    rw [List.pairwise_append]
    refine ⟨hl, List.pairwise_singleton _ _, fun a ha b hb => ?_⟩
    rw [List.mem_singleton.1 hb]
    exact ht a (hs ▸ ha)
  · rename_i a r h
    have ha := dw_head n l a r h
    rw [h] at hs
    split
    · exact hl
    · rename_i hne
      generalize l.takeWhile (fun a => decide (a < n)) = p at hs ht
      subst hs
      unfold Rising at hl ⊢
      rw [List.pairwise_append] at hl ⊢
      obtain ⟨h1, h2, h3⟩ := hl
      refine ⟨h1, ?_, fun x hx y hy => ?_⟩
      · rw [List.pairwise_cons]
        refine ⟨fun y hy => ?_, h2⟩
        rw [List.pairwise_cons] at h2
        rcases List.mem_cons.1 hy with rfl | hy
        · omega
        · have := h2.1 y hy; omega
      · rcases List.mem_cons.1 hy with rfl | hy
        · exact ht x hx
        · exact h3 x hx y hy
theorem length_ins (n : Int) (l : List Int) : (ins n l).length ≤ l.length + 1 := by
  unfold ins
  split
  · simp
  · rename_i a r h
    have hs := congrArg List.length (ins_split n l)
    rw [h] at hs
    split
    · omega
    · simp only [List.length_append, List.length_cons] at hs ⊢
      omega

def insAll : List Int → List Int → List Int
  | out, [] => out
  | out, c :: cs => insAll (ins c out) cs
theorem insAll_spec : ∀ (cs out : List Int), Rising out → Rising (insAll out cs) ∧ (∀ x, x ∈ insAll out cs ↔ x ∈ out ∨ x ∈ cs) ∧ (insAll out cs).length ≤ out.length + cs.length
  | [], out, h => ⟨h, fun x => by simp [insAll], by simp [insAll]⟩
  | c :: cs, out, h => by
    obtain ⟨q1, q2, q3⟩ := insAll_spec cs (ins c out) (rising_ins c out h)
    have hl := length_ins c out
    refine ⟨q1, fun x => ?_, by simp only [insAll, List.length_cons]; omega⟩
    simp only [insAll]
    rw [q2, mem_ins, List.mem_cons]
    constructor
    · rintro ((h | h) | h)
      · exact .inr (.inl h)
      · exact .inl h
      · exact .inr (.inr h)
    · rintro (h | h | h)
      · exact .inl (.inr h)
      · exact .inl (.inl h)
      · exact .inr h
theorem insAll_nil (cs : List Int) : insAll [] cs = setU cs := by
  obtain ⟨q1, q2, _⟩ := insAll_spec cs [] List.Pairwise.nil
  refine lt_unique _ _ q1 (setU_lt _) (fun x => ?_)
  rw [q2, setU_mem]
  simp
end Go.Proofs.Ytgelpccjdndfoaa.P

namespace Go.Proofs.Ytgelpccjdndfoaa.P
open Go.RowKit Go.Proofs.YtgelpccjdndfoaaW.PrintWords Go.Proofs.YtgelpccjdndfoaaW.PrintMore
set_option linter.unusedVariables false
set_option linter.unusedSimpArgs false
/-! The document's Sorted: each once, rising. -/
theorem sorted_l2 (n : Int) (xs : List Int) (xn xi : Int) (R : List Int) (p : List Int) : ∀ (q s : List Int) (z : Int), p.length + q.length + s.length ≤ 1000000000 →
    Ev (fun k => q19z.l0 k (p ++ n :: (q ++ s)) xs xn (wrap64 (xi + 1))) R →
    Ev (fun k => q19z.l2 k (p ++ q ++ [z] ++ s) n (p.length : Int) ((p.length + q.length : Nat) : Int) xs xn xi) R := by
  intro q
  induction h : q.length generalizing q with
  | zero =>
    intro s z hl hR
    have hq : q = [] := List.length_eq_zero_iff.1 h
    subst hq
    refine Ev.step (fun k => ?_) hR
    simp only [q19z.l2]
    rw [if_neg (by omega), if_pos (by omega), if_pos (by simp; omega), Int.toNat_natCast]
    simp
  | succ m ih =>
    intro s z hl hR
    rcases List.eq_nil_or_concat q with rfl | ⟨q', y, rfl⟩
    · simp at h
    · rw [List.concat_eq_append] at *
      have hq' : q'.length = m := by simpa using h
      have e1 := ih q' hq' (y :: s) y (by simp only [List.length_cons]; omega) (by
        have : p ++ n :: (q' ++ y :: s) = p ++ n :: (q' ++ [y] ++ s) := by simp
        rw [this]; exact hR)
      refine Ev.step (fun k => ?_) e1
      simp only [q19z.l2]
      have hw : wrap64 (((p.length + (m + 1) : Nat) : Int) - 1) = ((p.length + m : Nat) : Int) := by rw [wr _ (by omega) (by omega)]; omega
      have hr : rd (p ++ (q' ++ [y]) ++ [z] ++ s) ((p.length + m : Nat) : Int) = y := by
        rw [rdI _ _ (by simp; omega)]
        simp [List.getElem_append, hq']
      rw [if_pos (by omega), hw, if_pos (by omega), if_pos (by simp; omega), if_pos (by omega), if_pos (by simp; omega), hr, Int.toNat_natCast]
      congr 1
      have : p ++ (q' ++ [y]) ++ [z] ++ s = (p ++ q' ++ [y]) ++ (z :: s) := by simp
      rw [this, List.set_append_right _ _ (by simp; omega)]
      have : p.length + (m + 1) - (p ++ q' ++ [y]).length = 0 := by simp; omega
      rw [this]
      simp
theorem sorted_l1 (l : List Int) (n : Int) (hl : l.length ≤ 900000000) (xs : List Int) (xn xi : Int) (R : List Int) : ∀ (q p : List Int), l = p ++ q → (∀ a ∈ p, a < n) →
    Ev (fun k => q19z.j2 k l n (((p ++ q.takeWhile (fun a => decide (a < n))).length : Nat) : Int) xs xn xi) R → Ev (fun k => q19z.l1 k l n (p.length : Int) xs xn xi) R
  | [], p, hp, _, h => by
    rw [List.append_nil] at hp
    subst hp
    refine Ev.step (fun k => ?_) h
    simp only [q19z.l1]
    rw [if_neg (by omega), List.takeWhile_nil, List.append_nil]
  | a :: q, p, hp, hlt, h => by
    have hpl : p.length < l.length := by rw [hp]; simp
    have hr : rd l (p.length : Int) = a := by
      rw [rdI l _ hpl]
      simp [hp]
    by_cases ha : a < n
    · rw [List.takeWhile_cons_of_pos (by simpa using ha)] at h
      refine Ev.step (fun k => ?_) (sorted_l1 l n hl xs xn xi R q (p ++ [a]) (by rw [hp]; simp) (fun x hx => by
        rcases List.mem_append.1 hx with hx | hx
        · exact hlt x hx
        · rw [List.mem_singleton.1 hx]; exact ha) (by rw [List.append_assoc, List.singleton_append]; exact h))
      simp only [q19z.l1]
      rw [if_pos (by omega), if_pos (by omega), hr, if_pos ha, wrN _ (by omega), List.length_append, List.length_singleton]
    · rw [List.takeWhile_cons_of_neg (by simpa using ha), List.append_nil] at h
      refine Ev.step (fun k => ?_) h
      simp only [q19z.l1]
      rw [if_pos (by omega), if_pos (by omega), hr, if_neg ha]
theorem sorted_step (l : List Int) (n : Int) (hl : l.length ≤ 900000000) (xs : List Int) (xn xi : Int) (R : List Int) (hR : Ev (fun k => q19z.l0 k (ins n l) xs xn (wrap64 (xi + 1))) R) : Ev (fun k => q19z.l1 k l n 0 xs xn xi) R := by
  have h0 : Ev (fun k => q19z.l1 k l n (([] : List Int).length : Int) xs xn xi) R := by
    refine sorted_l1 l n hl xs xn xi R l [] rfl (fun a h => (List.not_mem_nil h).elim) ?_
    rw [List.nil_append]
    have hs := ins_split n l
    unfold ins at hR
    cases hd : l.dropWhile (fun a => decide (a < n)) with
    | nil =>
      rw [hd] at hR
      rw [hd, List.append_nil] at hs
      simp only at hR
      rw [← hs]
      refine Ev.step (f := fun k => q19z.j3 k l n (l.length : Int) xs xn xi false) (fun k => ?_) (Ev.step (f := fun k => q19z.l2 k (l ++ [0]) n (l.length : Int) (l.length : Int) xs xn xi) (fun k => ?_) ?_)
      · simp only [q19z.j2]
        rw [if_neg (by omega)]
      · simp only [q19z.j3]
        rw [if_neg (by decide), if_pos (by omega), Option.bind_some, wr _ (by simp only [List.length_append, List.length_singleton]; omega) (by simp only [List.length_append, List.length_singleton]; omega)]
        congr 1
        simp
      · have := sorted_l2 n xs xn xi R l [] [] 0 (by simp; omega) (by simpa using hR)
        simpa using this
    | cons a r =>
      rw [hd] at hs hR
      have hal : (l.takeWhile (fun a => decide (a < n))).length < l.length := by
        have := congrArg List.length hs
        simp only [List.length_append, List.length_cons] at this
        omega
      generalize hp : l.takeWhile (fun a => decide (a < n)) = p at hs hal hR ⊢
      have hr : rd l (p.length : Int) = a := by
        rw [rdI l _ hal]
        simp [hs]
      simp only at hR
      by_cases ha : a = n
      · rw [if_pos ha] at hR
        refine Ev.step (f := fun k => q19z.j3 k l n (p.length : Int) xs xn xi true) (fun k => ?_) (Ev.step (fun k => ?_) hR)
        · simp only [q19z.j2]
          rw [if_pos (by omega), if_pos (by omega), hr, ha]
          simp
        · simp only [q19z.j3]
          rw [if_pos trivial]
      · rw [if_neg ha] at hR
        refine Ev.step (f := fun k => q19z.j3 k l n (p.length : Int) xs xn xi false) (fun k => ?_) (Ev.step (f := fun k => q19z.l2 k (l ++ [0]) n (p.length : Int) (l.length : Int) xs xn xi) (fun k => ?_) ?_)
        · simp only [q19z.j2]
          rw [if_pos (by omega), if_pos (by omega), hr, show (a == n) = false from by simpa using ha]
        · simp only [q19z.j3]
          rw [if_neg (by decide), if_pos (by omega), Option.bind_some, wr _ (by simp only [List.length_append, List.length_singleton]; omega) (by simp only [List.length_append, List.length_singleton]; omega)]
          congr 1
          simp
        · have h1 := sorted_l2 n xs xn xi R p (a :: r) [] 0 (by have := congrArg List.length hs; simp only [List.length_append, List.length_cons, List.length_nil] at this ⊢; omega) (by rw [List.append_nil]; exact hR)
          have e1 : p ++ a :: r ++ [0] ++ [] = l ++ [0] := by rw [List.append_nil, ← hs]
          have e2 : p.length + (a :: r).length = l.length := by rw [← List.length_append, ← hs]
          rw [e1, e2] at h1
          exact h1
  exact h0
theorem sorted_l0 (xs : List Int) (hx : xs.length ≤ 900000000) : ∀ (d i : Nat) (out : List Int), i + d = xs.length → out.length + d ≤ 900000000 → Ev (fun k => q19z.l0 k out xs (xs.length : Int) (i : Int)) (insAll out (xs.drop i))
  | 0, i, out, hi, ho => by
    rw [List.drop_eq_nil_of_le (by omega)]
    refine Ev.last (fun k => ?_)
    simp only [q19z.l0]
    rw [if_neg (by omega)]
    rfl
  | d + 1, i, out, hi, ho => by
    have hil : i < xs.length := by omega
    have hln := length_ins xs[i] out
    rw [List.drop_eq_getElem_cons hil]
    simp only [insAll]
    have ih := sorted_l0 xs hx d (i + 1) (ins xs[i] out) (by omega) (by omega)
    refine Ev.step (fun k => ?_) (sorted_step out xs[i] (by omega) xs (xs.length : Int) (i : Int) _ (by rw [wrN i (by omega)]; exact ih))
    simp only [q19z.l0]
    rw [if_pos (by omega), if_pos (by omega), if_pos (by omega), rdI xs i hil]
theorem sorted_ev (xs : List Int) (hx : xs.length ≤ 400000000) : Ev (fun k => q19z.f k xs) (setU xs) := by
  have h := sorted_l0 xs (by omega) xs.length 0 [] (by omega) (by simp; omega)
  rw [List.drop_zero, insAll_nil] at h
  exact Ev.congr (fun k => rfl) h
end Go.Proofs.Ytgelpccjdndfoaa.P

namespace Go.Proofs.Ytgelpccjdndfoaa.P
open Go.RowKit Go.Proofs.YtgelpccjdndfoaaW.PrintWords Go.Proofs.YtgelpccjdndfoaaW.PrintMore
set_option linter.unusedVariables false
set_option linter.unusedSimpArgs false
/-! Is there a zero? -/
def hasZ (l : List Int) : Bool := l.any (fun z => decide (z = 0))
theorem index_l0 (l : List Int) (hl : l.length ≤ 9223372036854775807) : ∀ (d i : Nat), i + d = l.length → ∃ r : Int, Ev (fun k => q3z.l0 k l 0 (l.length : Int) (i : Int)) r ∧ decide (r ≥ 0) = hasZ (l.drop i)
  | 0, i, hi => by
    refine ⟨-1, Ev.step (f := fun _ => some (-1)) (fun k => ?_) (Ev.now _), ?_⟩
    · simp only [q3z.l0]
      rw [if_neg (by omega)]
    · rw [drop_ge l i (by omega)]; rfl
  | d + 1, i, hi => by
    have h : i < l.length := by omega
    rw [List.drop_eq_getElem_cons h]
    by_cases e : l[i] = 0
    · refine ⟨i, Ev.step (f := fun _ => some (i : Int)) (fun k => ?_) (Ev.now _), ?_⟩
      · simp only [q3z.l0]
        rw [if_pos (by omega), if_pos (by omega), if_pos (by omega), rdI l i h, if_pos e.symm]
      · simp [hasZ, e]
    · obtain ⟨r, h1, h2⟩ := index_l0 l hl d (i + 1) (by omega)
      refine ⟨r, Ev.step (f := fun k => q3z.l0 k l 0 (l.length : Int) ((i + 1 : Nat) : Int)) (fun k => ?_) h1, ?_⟩
      · simp only [q3z.l0]
        rw [if_pos (by omega), if_pos (by omega), if_pos (by omega), rdI l i h, if_neg (fun z => e z.symm), wrN i (by omega)]
      · rw [h2]; simp only [hasZ, List.any_cons, e, decide_false, Bool.false_or]
theorem contains_ev (l : List Int) (hl : l.length ≤ 9223372036854775807) : Ev (fun k => q4z.f k l 0) (hasZ l) := by
  obtain ⟨r, ⟨K, h1⟩, h2⟩ := index_l0 l hl l.length 0 (by omega)
  rw [List.drop_zero] at h2
  refine ⟨K, fun k hk => ?_⟩
  have := h1 k hk
  unfold q4z.f q3z.f
  exact (congrArg (fun z => Option.bind z fun t => some (decide (t ≥ 0))) this).trans (congrArg some h2)
end Go.Proofs.Ytgelpccjdndfoaa.P

namespace Go.Proofs.Ytgelpccjdndfoaa.P
open Go.RowKit Go.Proofs.YtgelpccjdndfoaaW.PrintWords Go.Proofs.YtgelpccjdndfoaaW.PrintMore
set_option linter.unusedVariables false
set_option linter.unusedSimpArgs false
/-! Actions: what the code and the document make. -/
abbrev AC := S26
def AU (a : AC) : Prop := I64 a.f0 ∧ U32 a.f1 ∧ LU a.f2 ∧ ComU a.f3
theorem aU_of {a : AC} (h : good26 a) : AU a := ⟨i64_of h.1, u32_of h.2.1, lu_of h.2.2.1, comU_of h.2.2.2⟩
def rightB (a : AC) : Bool :=
  if a.f0 = 1 ∨ a.f0 = 2 ∨ a.f0 = 4 then true else if a.f0 = 3 then decide (a.f1 ≤ 2) else if a.f0 = 5 then decide (a.f2.length ≤ 64) && !hasZ a.f2 else if a.f0 = 6 ∨ a.f0 = 7 then decide (a.f2.length ≤ 64) else if a.f0 = 8 then commsRight a.f3 else false
theorem act_right_j0 (a : AC) (ha : AU a) (h1 : a.f0 ≠ 1) (h2 : a.f0 ≠ 2) (g : Bool) (hg : g = (a.f0 == 4)) : Ev (fun k => q5z.j0 k (decide ((a.f2.length : Int) ≤ 64)) a.f0 g a.f0 a.f1 a.f2 a.f3) (rightB a) := by
  have hd : decide ((a.f2.length : Int) ≤ 64) = decide (a.f2.length ≤ 64) := decide_eq_decide.2 (by omega)
  rw [hd, hg]
  unfold rightB
  by_cases h4 : a.f0 = 4
  · rw [if_pos (.inr (.inr h4))]
    refine Ev.last (fun k => ?_)
    simp only [q5z.j0]
    rw [if_pos (by simp [h4])]
  · rw [if_neg (by omega)]
    by_cases h3 : a.f0 = 3
    · rw [if_pos h3]
      refine Ev.last (fun k => ?_)
      simp only [q5z.j0]
      rw [if_neg (by simp [h4]), if_pos h3]
    · rw [if_neg h3]
      by_cases h5 : a.f0 = 5
      · rw [if_pos h5]
        refine Ev.use (contains_ev a.f2 ha.2.2.1.1) (Ev.now _) (fun k e => ?_)
        simp only [q5z.j0]
        rw [if_neg (by simp [h4]), if_neg h3, if_pos h5]
        cases decide (a.f2.length ≤ 64) with
        | true => rw [if_pos rfl, e]; simp
        | false => rfl
      · rw [if_neg h5]
        have hj : ∀ g2 : Bool, (g2 = true → a.f0 = 6 ∨ a.f0 = 7) → (g2 = false → ¬ (a.f0 = 6 ∨ a.f0 = 7)) → Ev (fun k => q5z.j1 k (decide (a.f2.length ≤ 64)) a.f0 g2 a.f0 a.f1 a.f2 a.f3) (if a.f0 = 6 ∨ a.f0 = 7 then decide (a.f2.length ≤ 64) else if a.f0 = 8 then commsRight a.f3 else false) := fun g2 q1 q2 => by
          refine Ev.last (fun k => ?_)
          simp only [q5z.j1]
          cases g2 with
          | true => rw [if_pos rfl, if_pos (q1 rfl)]
          | false =>
            rw [if_neg (by decide), if_neg (q2 rfl)]
            by_cases h8 : a.f0 = 8
            · rw [if_pos h8, if_pos h8]; rfl
            · rw [if_neg h8, if_neg h8]
        by_cases h6 : a.f0 = 6
        · refine Ev.step (fun k => ?_) (hj (a.f0 == 6) (fun h => .inl (by simpa using h)) (fun h => by simp [h6] at h))
          simp only [q5z.j0]
          rw [if_neg (by simp [h4]), if_neg h3, if_neg h5, if_pos h6]
        · refine Ev.step (fun k => ?_) (hj (a.f0 == 7) (fun h => .inr (by simpa using h)) (fun h => by simp at h; omega))
          simp only [q5z.j0]
          rw [if_neg (by simp [h4]), if_neg h3, if_neg h5, if_neg h6]
theorem actRight_ev (a : AC) (ha : AU a) : Ev (fun k => q5z.f k a.f0 a.f1 a.f2 a.f3) (rightB a) := by
  have hb : ∀ g : Bool, g = true → (a.f0 = 1 ∨ a.f0 = 2) → Ev (fun k => q5z.j0 k (decide ((a.f2.length : Int) ≤ 64)) a.f0 g a.f0 a.f1 a.f2 a.f3) (rightB a) := fun g hg h => by
    unfold rightB
    rw [if_pos (by omega)]
    refine Ev.last (fun k => ?_)
    simp only [q5z.j0]
    rw [if_pos hg]
  by_cases h1 : a.f0 = 1
  · refine Ev.congr (fun k => ?_) (hb (a.f0 == 1) (by simp [h1]) (.inl h1))
    unfold q5z.f
    rw [if_pos h1]
  · by_cases h2 : a.f0 = 2
    · refine Ev.congr (fun k => ?_) (hb (a.f0 == 2) (by simp [h2]) (.inr h2))
      unfold q5z.f
      rw [if_neg h1, if_pos h2]
    · refine Ev.congr (fun k => ?_) (act_right_j0 a ha h1 h2 _ rfl)
      unfold q5z.f
      rw [if_neg h1, if_neg h2]
/-! The document's. -/
theorem commsRight_l0 (l : List S53) (hl : l.length ≤ 64) : ∀ (d i : Nat), i + d = l.length → Ev (fun k => q14z.l0 k l (l.length : Int) (i : Int)) (!((l.drop i).any (fun e => decide (64 < e.f1.length))))
  | 0, i, hi => by
    rw [List.drop_eq_nil_of_le (by omega)]
    refine Ev.last (fun k => ?_)
    simp only [q14z.l0]
    rw [if_neg (by omega)]
    rfl
  | d + 1, i, hi => by
    have hil : i < l.length := by omega
    have hrd := comm_getD l i hil
    have ih := commsRight_l0 l hl d (i + 1) (by omega)
    rw [List.drop_eq_getElem_cons hil, List.any_cons]
    generalize l[i] = e at hrd
    by_cases h : 64 < e.f1.length
    · rw [decide_eq_true h, Bool.true_or]
      refine Ev.last (fun k => ?_)
      simp only [q14z.l0]
      rw [if_pos (by omega), if_pos (by omega), if_pos (by omega), hrd, if_pos (by omega)]
      rfl
    · rw [decide_eq_false h, Bool.false_or]
      refine Ev.step (fun k => ?_) ih
      simp only [q14z.l0]
      rw [if_pos (by omega), if_pos (by omega), if_pos (by omega), hrd, if_neg (by omega), wrN i (by omega)]
theorem commsRight_ev (l : List S53) : Ev (fun k => q14z.f k l) (commsRight l) := by
  unfold commsRight
  by_cases h : l.length ≤ 64
  · have h0 := commsRight_l0 l h l.length 0 (by omega)
    rw [List.drop_zero] at h0
    rw [decide_eq_true h, Bool.true_and]
    refine Ev.congr (fun k => ?_) h0
    unfold q14z.f
    rw [if_neg (by omega)]
    rfl
  · rw [decide_eq_false h, Bool.false_and]
    refine Ev.congr (fun k => ?_) (Ev.now _)
    unfold q14z.f
    rw [if_pos (by omega)]
theorem refRight_l0 (a : AC) (l : List Int) (hl : LU l) : ∀ (d i : Nat), i + d = l.length → Ev (fun k => q15z.l0 k l (l.length : Int) (i : Int) a.f0 a.f1 a.f2 a.f3) (decide (a.f2.length ≤ 64) && !hasZ (l.drop i))
  | 0, i, hi => by
    rw [List.drop_eq_nil_of_le (by omega)]
    refine Ev.last (fun k => ?_)
    simp only [q15z.l0]
    rw [if_neg (by omega), show hasZ [] = false from rfl, Bool.not_false, Bool.and_true]
    exact congrArg some (decide_eq_decide.2 (by omega))
  | d + 1, i, hi => by
    have hil : i < l.length := by omega
    have hln := hl.1
    have hrd := rdI l i hil
    have ih := refRight_l0 a l hl d (i + 1) (by omega)
    rw [List.drop_eq_getElem_cons hil]
    generalize l[i] = x at hrd
    by_cases h : x = 0
    · have hz : hasZ (x :: l.drop (i + 1)) = true := by simp [hasZ, h]
      rw [hz, Bool.not_true, Bool.and_false]
      refine Ev.last (fun k => ?_)
      simp only [q15z.l0]
      rw [if_pos (by omega), if_pos (by omega), if_pos (by omega), hrd, if_pos h]
    · have hz : hasZ (x :: l.drop (i + 1)) = hasZ (l.drop (i + 1)) := by simp [hasZ, h]
      rw [hz]
      refine Ev.step (fun k => ?_) ih
      simp only [q15z.l0]
      rw [if_pos (by omega), if_pos (by omega), if_pos (by omega), hrd, if_neg h, wrN i (by omega)]
theorem refRight_j0 (a : AC) (ha : AU a) (h1 : a.f0 ≠ 1) (h2 : a.f0 ≠ 2) (g : Bool) (hg : g = (a.f0 == 4)) : Ev (fun k => q15z.j0 k a.f0 g a.f0 a.f1 a.f2 a.f3) (rightB a) := by
  rw [hg]
  unfold rightB
  by_cases h4 : a.f0 = 4
  · rw [if_pos (.inr (.inr h4))]
    refine Ev.last (fun k => ?_)
    simp only [q15z.j0]
    rw [if_pos (by simp [h4])]
  · rw [if_neg (by omega)]
    by_cases h3 : a.f0 = 3
    · rw [if_pos h3]
      refine Ev.last (fun k => ?_)
      simp only [q15z.j0]
      rw [if_neg (by simp [h4]), if_pos h3]
    · rw [if_neg h3]
      by_cases h5 : a.f0 = 5
      · rw [if_pos h5]
        have h0 := refRight_l0 a a.f2 ha.2.2.1 a.f2.length 0 (by omega)
        rw [List.drop_zero] at h0
        refine Ev.step (fun k => ?_) h0
        simp only [q15z.j0]
        rw [if_neg (by simp [h4]), if_neg h3, if_pos h5]
        rfl
      · rw [if_neg h5]
        have hj : ∀ g2 : Bool, (g2 = true → a.f0 = 6 ∨ a.f0 = 7) → (g2 = false → ¬ (a.f0 = 6 ∨ a.f0 = 7)) → Ev (fun k => q15z.j2 k a.f0 g2 a.f0 a.f1 a.f2 a.f3) (if a.f0 = 6 ∨ a.f0 = 7 then decide (a.f2.length ≤ 64) else if a.f0 = 8 then commsRight a.f3 else false) := fun g2 q1 q2 => by
          cases g2 with
          | true =>
            rw [if_pos (q1 rfl)]
            refine Ev.last (fun k => ?_)
            simp only [q15z.j2]
            rw [if_pos trivial]
            exact congrArg some (decide_eq_decide.2 (by omega))
          | false =>
            rw [if_neg (q2 rfl)]
            by_cases h8 : a.f0 = 8
            · rw [if_pos h8]
              refine Ev.use (commsRight_ev a.f3) (Ev.now _) (fun k e => ?_)
              simp only [q15z.j2]
              rw [if_neg (by decide), if_pos h8, e]
              rfl
            · rw [if_neg h8]
              refine Ev.last (fun k => ?_)
              simp only [q15z.j2]
              rw [if_neg (by decide), if_neg h8]
        by_cases h6 : a.f0 = 6
        · refine Ev.step (fun k => ?_) (hj (a.f0 == 6) (fun h => .inl (by simpa using h)) (fun h => by simp [h6] at h))
          simp only [q15z.j0]
          rw [if_neg (by simp [h4]), if_neg h3, if_neg h5, if_pos h6]
        · refine Ev.step (fun k => ?_) (hj (a.f0 == 7) (fun h => .inr (by simpa using h)) (fun h => by simp at h; omega))
          simp only [q15z.j0]
          rw [if_neg (by simp [h4]), if_neg h3, if_neg h5, if_neg h6]
theorem refRight_ev (a : AC) (ha : AU a) : Ev (fun k => q15z.f k a.f0 a.f1 a.f2 a.f3) (rightB a) := by
  have hb : ∀ g : Bool, g = true → (a.f0 = 1 ∨ a.f0 = 2) → Ev (fun k => q15z.j0 k a.f0 g a.f0 a.f1 a.f2 a.f3) (rightB a) := fun g hg h => by
    unfold rightB
    rw [if_pos (by omega)]
    refine Ev.last (fun k => ?_)
    simp only [q15z.j0]
    rw [if_pos hg]
  by_cases h1 : a.f0 = 1
  · refine Ev.congr (fun k => ?_) (hb (a.f0 == 1) (by simp [h1]) (.inl h1))
    unfold q15z.f
    rw [if_pos h1]
  · by_cases h2 : a.f0 = 2
    · refine Ev.congr (fun k => ?_) (hb (a.f0 == 2) (by simp [h2]) (.inr h2))
      unfold q15z.f
      rw [if_neg h1, if_pos h2]
    · refine Ev.congr (fun k => ?_) (refRight_j0 a ha h1 h2 _ rfl)
      unfold q15z.f
      rw [if_neg h1, if_neg h2]
end Go.Proofs.Ytgelpccjdndfoaa.P

namespace Go.Proofs.Ytgelpccjdndfoaa.P
open Go.RowKit Go.Proofs.YtgelpccjdndfoaaW.PrintWords Go.Proofs.YtgelpccjdndfoaaW.PrintMore
set_option linter.unusedVariables false
set_option linter.unusedSimpArgs false
/-! A route with an action done. -/
def doR (a : AC) (r : R8) : R8 :=
  if rightB a = false then r
  else if a.f0 = 1 then (r.1, r.2.1, r.2.2.1, r.2.2.2.1, a.f1, r.2.2.2.2.2.1, r.2.2.2.2.2.2.1, r.2.2.2.2.2.2.2)
  else if a.f0 = 2 then (r.1, r.2.1, r.2.2.1, r.2.2.2.1, r.2.2.2.2.1, a.f1, r.2.2.2.2.2.2.1, r.2.2.2.2.2.2.2)
  else if a.f0 = 3 then (r.1, r.2.1, r.2.2.1, r.2.2.2.1, r.2.2.2.2.1, r.2.2.2.2.2.1, a.f1, r.2.2.2.2.2.2.2)
  else if a.f0 = 4 then (r.1, r.2.1, r.2.2.1, r.2.2.2.1, r.2.2.2.2.1, r.2.2.2.2.2.1, r.2.2.2.2.2.2.1, a.f1)
  else if a.f0 = 5 then (r.1, r.2.1, a.f2 ++ r.2.2.1, r.2.2.2.1, r.2.2.2.2.1, r.2.2.2.2.2.1, r.2.2.2.2.2.2.1, r.2.2.2.2.2.2.2)
  else if a.f0 = 6 then (r.1, r.2.1, r.2.2.1, setU (r.2.2.2.1 ++ a.f2), r.2.2.2.2.1, r.2.2.2.2.2.1, r.2.2.2.2.2.2.1, r.2.2.2.2.2.2.2)
  else if a.f0 = 7 then (r.1, r.2.1, r.2.2.1, setU a.f2, r.2.2.2.2.1, r.2.2.2.2.2.1, r.2.2.2.2.2.2.1, r.2.2.2.2.2.2.2)
  else (r.1, r.2.1, r.2.2.1, setU (r.2.2.2.1.filter (fun c => !takesB a.f3 [c])), r.2.2.2.2.1, r.2.2.2.2.2.1, r.2.2.2.2.2.2.1, r.2.2.2.2.2.2.2)
theorem rightB_len (a : AC) (h : rightB a = true) (h2 : a.f0 = 5 ∨ a.f0 = 6 ∨ a.f0 = 7) : a.f2.length ≤ 64 := by
  unfold rightB at h
  rw [if_neg (by omega), if_neg (by omega)] at h
  rcases h2 with h2 | h2 | h2
  · rw [if_pos h2, Bool.and_eq_true] at h
    exact of_decide_eq_true h.1
  · rw [if_neg (by omega), if_pos (.inl h2)] at h
    exact of_decide_eq_true h
  · rw [if_neg (by omega), if_pos (.inr h2)] at h
    exact of_decide_eq_true h
theorem rightB_kind (a : AC) (h : rightB a = true) : 1 ≤ a.f0 ∧ a.f0 ≤ 8 := by
  unfold rightB at h
  split at h
  · omega
  · split at h
    · omega
    · split at h
      · omega
      · split at h
        · omega
        · split at h
          · omega
          · simp at h
theorem rising_f (k : Nat) (t : List Int) (h : t.length ≤ 1000000000) : q8z.f k t = some (setU t) := by
  have h1 : Sort_u32.f k t = some (sortU t) := if_pos (by omega)
  have h2 : Compact_u32.f (sortU t) = some (setU t) := if_pos (by rw [sortU_len]; omega)
  unfold q8z.f
  rw [h1, Option.bind_some, h2, Option.bind_some]
theorem join_f (L : List (List Int)) (hl : L.length ≤ 1000) (h : sumLen L ≤ 1000000000) : q7z.f L = some L.flatten := by
  have h1 : slices_Concat_uint32_uint32.f L = some L.flatten := if_pos ⟨by omega, by omega⟩
  have h2 := sumLen_flat L
  unfold q7z.f
  rw [Option.bind_some, h1, Option.bind_some, if_pos (by simp only [List.length_nil]; omega), List.nil_append]
theorem copy_f (r : R8) (h1 : r.2.2.1.length ≤ 1000000000) (h2 : r.2.2.2.1.length ≤ 1000000000) : q6z.f r.1 r.2.1 r.2.2.1 r.2.2.2.1 r.2.2.2.2.1 r.2.2.2.2.2.1 r.2.2.2.2.2.2.1 r.2.2.2.2.2.2.2 = some r := by
  unfold q6z.f
  rw [Option.bind_some, if_pos (by simp only [List.length_nil]; omega), Option.bind_some, if_pos (by simp only [List.length_nil]; omega), List.nil_append, List.nil_append]
theorem refCopy_f (r : R8) (h1 : r.2.2.1.length ≤ 1000000000) (h2 : r.2.2.2.1.length ≤ 1000000000) : q2z.f r.1 r.2.1 r.2.2.1 r.2.2.2.1 r.2.2.2.2.1 r.2.2.2.2.2.1 r.2.2.2.2.2.2.1 r.2.2.2.2.2.2.2 = some r := by
  unfold q2z.f
  rw [Option.bind_some, if_pos (by simp only [List.length_nil]; omega), Option.bind_some, if_pos (by simp only [List.length_nil]; omega), List.nil_append, List.nil_append]
theorem lu_one {c : Int} (h : U32 c) : LU [c] := ⟨by simp, fun z hz => by rw [List.mem_singleton.1 hz]; exact h⟩
theorem del_f (a : AC) (ha : AU a) (cs : List Int) (hc : LU cs) : act_del.f cs a.f3 = some (cs.filter (fun c => !takesB a.f3 [c])) :=
  keepM_some _ _ cs (fun c h => takes_f a.f3 ha.2.2.2 [c] (lu_one (hc.2 c h)))
theorem do_ev (a : AC) (ha : AU a) (r : R8) (hc : LU r.2.2.2.1) (h1 : r.2.2.1.length ≤ 100000000) (h2 : r.2.2.2.1.length ≤ 100000000) :
    Ev (fun k => q9z.f k a.f0 a.f1 a.f2 a.f3 r.1 r.2.1 r.2.2.1 r.2.2.2.1 r.2.2.2.2.1 r.2.2.2.2.2.1 r.2.2.2.2.2.2.1 r.2.2.2.2.2.2.2) (doR a r) := by
  have hcp := copy_f r (by omega) (by omega)
  have hw : wrap64 a.f1 = a.f1 := ha.2.1.wr
  have hR := actRight_ev a ha
  cases hb : rightB a with
  | false =>
    refine Ev.with hR (Ev.now _) (fun k e => ?_)
    unfold q9z.f doR
    rw [hcp, Option.bind_some, e, Option.bind_some, hb, if_neg (by decide), if_pos rfl]
  | true =>
    rw [hb] at hR
    have hk := rightB_kind a hb
    unfold doR
    rw [hb, if_neg (by decide)]
    by_cases k1 : a.f0 = 1
    · refine Ev.with hR (Ev.now _) (fun k e => ?_)
      unfold q9z.f
      rw [hcp, Option.bind_some, e, Option.bind_some, if_pos rfl, if_pos k1, if_pos k1]
    rw [if_neg k1]
    by_cases k2 : a.f0 = 2
    · refine Ev.with hR (Ev.now _) (fun k e => ?_)
      unfold q9z.f
      rw [hcp, Option.bind_some, e, Option.bind_some, if_pos rfl, if_neg k1, if_pos k2, if_pos k2]
    rw [if_neg k2]
    by_cases k3 : a.f0 = 3
    · refine Ev.with hR (Ev.now _) (fun k e => ?_)
      unfold q9z.f
      rw [hcp, Option.bind_some, e, Option.bind_some, if_pos rfl, if_neg k1, if_neg k2, if_pos k3, if_pos k3, hw]
    rw [if_neg k3]
    by_cases k4 : a.f0 = 4
    · refine Ev.with hR (Ev.now _) (fun k e => ?_)
      unfold q9z.f
      rw [hcp, Option.bind_some, e, Option.bind_some, if_pos rfl, if_neg k1, if_neg k2, if_neg k3, if_pos k4, if_pos k4]
    rw [if_neg k4]
    by_cases k5 : a.f0 = 5
    · have hl := rightB_len a hb (.inl k5)
      refine Ev.with hR (Ev.now _) (fun k e => ?_)
      unfold q9z.f
      rw [hcp, Option.bind_some, e, Option.bind_some, if_pos rfl, if_neg k1, if_neg k2, if_neg k3, if_neg k4, if_pos k5, if_pos k5, join_f [a.f2, r.2.2.1] (by simp) (by simp [sumLen]; omega), Option.bind_some]
      simp
    rw [if_neg k5]
    by_cases k6 : a.f0 = 6
    · have hl := rightB_len a hb (.inr (.inl k6))
      refine Ev.with hR (Ev.now _) (fun k e => ?_)
      unfold q9z.f
      rw [hcp, Option.bind_some, e, Option.bind_some, if_pos rfl, if_neg k1, if_neg k2, if_neg k3, if_neg k4, if_neg k5, if_pos k6, if_pos k6, join_f [r.2.2.2.1, a.f2] (by simp) (by simp [sumLen]; omega), Option.bind_some, rising_f k _ (by simp; omega), Option.bind_some]
      simp
    rw [if_neg k6]
    by_cases k7 : a.f0 = 7
    · have hl := rightB_len a hb (.inr (.inr k7))
      refine Ev.with hR (Ev.now _) (fun k e => ?_)
      unfold q9z.f
      rw [hcp, Option.bind_some, e, Option.bind_some, if_pos rfl, if_neg k1, if_neg k2, if_neg k3, if_neg k4, if_neg k5, if_neg k6, if_pos k7, if_pos k7, join_f [a.f2] (by simp) (by simp [sumLen]; omega), Option.bind_some, rising_f k _ (by simp; omega), Option.bind_some]
      simp
    rw [if_neg k7]
    have k8 : a.f0 = 8 := by omega
    have hfl := List.length_filter_le (fun c => !takesB a.f3 [c]) r.2.2.2.1
    refine Ev.with hR (Ev.now _) (fun k e => ?_)
    unfold q9z.f
    rw [hcp, Option.bind_some, e, Option.bind_some, if_pos rfl, if_neg k1, if_neg k2, if_neg k3, if_neg k4, if_neg k5, if_neg k6, if_neg k7, if_pos k8, del_f a ha _ hc, Option.bind_some, rising_f k _ (by omega), Option.bind_some]
/-! The document's. -/
theorem refDo_l0 (a : AC) (ha : AU a) (r : R8) (hc : LU r.2.2.2.1) (h2 : r.2.2.2.1.length ≤ 100000000) : ∀ (d i : Nat) (out : List Int), i + d = r.2.2.2.1.length → out.length ≤ i →
    Ev (fun k => q20z.l0 k out r.2.2.2.1 (r.2.2.2.1.length : Int) (i : Int) a.f0 a.f1 a.f2 a.f3 r.1 r.2.1 r.2.2.1 r.2.2.2.1 r.2.2.2.2.1 r.2.2.2.2.2.1 r.2.2.2.2.2.2.1 r.2.2.2.2.2.2.2) (r.1, r.2.1, r.2.2.1, setU (out ++ (r.2.2.2.1.drop i).filter (fun c => !takesB a.f3 [c])), r.2.2.2.2.1, r.2.2.2.2.2.1, r.2.2.2.2.2.2.1, r.2.2.2.2.2.2.2)
  | 0, i, out, hi, ho => by
    rw [List.drop_eq_nil_of_le (by omega), List.filter_nil, List.append_nil]
    refine Ev.use (sorted_ev out (by omega)) (Ev.now _) (fun k e => ?_)
    simp only [q20z.l0]
    rw [if_neg (by omega), e, Option.bind_some]
  | d + 1, i, out, hi, ho => by
    have hil : i < r.2.2.2.1.length := by omega
    have hrd := rdI r.2.2.2.1 i hil
    have hu := hc.2 _ (List.getElem_mem hil)
    rw [List.drop_eq_getElem_cons hil, List.filter_cons]
    generalize hx : r.2.2.2.1[i] = x at hrd hu
    have ht := refTakes_ev a.f3 ha.2.2.2 [x] (lu_one hu)
    cases hb : takesB a.f3 [x] with
    | true =>
      rw [hb] at ht
      rw [if_neg (by simp)]
      refine Ev.use ht (refDo_l0 a ha r hc h2 d (i + 1) out (by omega) (by omega)) (fun k e => ?_)
      simp only [q20z.l0]
      rw [if_pos (by omega), if_pos (by omega), if_pos (by omega), hrd, e, Option.bind_some, if_pos rfl, wrN i (by omega)]
    | false =>
      rw [hb] at ht
      rw [if_pos (by simp)]
      have ih := refDo_l0 a ha r hc h2 d (i + 1) (out ++ [x]) (by omega) (by simp; omega)
      rw [List.append_assoc, List.singleton_append] at ih
      refine Ev.use ht ih (fun k e => ?_)
      simp only [q20z.l0]
      rw [if_pos (by omega), if_pos (by omega), if_pos (by omega), hrd, e, Option.bind_some, if_neg (by decide), if_pos (by omega), wrN i (by omega)]
theorem refDo_ev (a : AC) (ha : AU a) (r : R8) (hc : LU r.2.2.2.1) (h1 : r.2.2.1.length ≤ 100000000) (h2 : r.2.2.2.1.length ≤ 100000000) :
    Ev (fun k => q20z.f k a.f0 a.f1 a.f2 a.f3 r.1 r.2.1 r.2.2.1 r.2.2.2.1 r.2.2.2.2.1 r.2.2.2.2.2.1 r.2.2.2.2.2.2.1 r.2.2.2.2.2.2.2) (doR a r) := by
  have hcp := refCopy_f r (by omega) (by omega)
  have hw : wrap64 a.f1 = a.f1 := ha.2.1.wr
  have hR := refRight_ev a ha
  cases hb : rightB a with
  | false =>
    refine Ev.with hR (Ev.now _) (fun k e => ?_)
    unfold q20z.f doR
    rw [hcp, Option.bind_some, e, Option.bind_some, hb, if_neg (by decide), if_pos rfl]
  | true =>
    rw [hb] at hR
    have hk := rightB_kind a hb
    unfold doR
    rw [hb, if_neg (by decide)]
    by_cases k1 : a.f0 = 1
    · refine Ev.with hR (Ev.now _) (fun k e => ?_)
      unfold q20z.f
      rw [hcp, Option.bind_some, e, Option.bind_some, if_pos rfl, if_pos k1, if_pos k1]
    rw [if_neg k1]
    by_cases k2 : a.f0 = 2
    · refine Ev.with hR (Ev.now _) (fun k e => ?_)
      unfold q20z.f
      rw [hcp, Option.bind_some, e, Option.bind_some, if_pos rfl, if_neg k1, if_pos k2, if_pos k2]
    rw [if_neg k2]
    by_cases k3 : a.f0 = 3
    · refine Ev.with hR (Ev.now _) (fun k e => ?_)
      unfold q20z.f
      rw [hcp, Option.bind_some, e, Option.bind_some, if_pos rfl, if_neg k1, if_neg k2, if_pos k3, if_pos k3, hw]
    rw [if_neg k3]
    by_cases k4 : a.f0 = 4
    · refine Ev.with hR (Ev.now _) (fun k e => ?_)
      unfold q20z.f
      rw [hcp, Option.bind_some, e, Option.bind_some, if_pos rfl, if_neg k1, if_neg k2, if_neg k3, if_pos k4, if_pos k4]
    rw [if_neg k4]
    by_cases k5 : a.f0 = 5
    · have hl := rightB_len a hb (.inl k5)
      refine Ev.with hR (Ev.now _) (fun k e => ?_)
      unfold q20z.f
      rw [hcp, Option.bind_some, e, Option.bind_some, if_pos rfl, if_neg k1, if_neg k2, if_neg k3, if_neg k4, if_pos k5, if_pos k5, Option.bind_some, if_pos (by simp only [List.length_nil]; omega), Option.bind_some, List.nil_append, if_pos (by omega)]
    rw [if_neg k5]
    by_cases k6 : a.f0 = 6
    · have hl := rightB_len a hb (.inr (.inl k6))
      rw [if_pos k6]
      refine Ev.with2 hR (sorted_ev (r.2.2.2.1 ++ a.f2) (by simp; omega)) (Ev.now _) (fun k e e2 => ?_)
      unfold q20z.f
      rw [hcp, Option.bind_some, e, Option.bind_some, if_pos rfl, if_neg k1, if_neg k2, if_neg k3, if_neg k4, if_neg k5, if_pos k6, if_pos (by omega), e2, Option.bind_some]
    rw [if_neg k6]
    by_cases k7 : a.f0 = 7
    · have hl := rightB_len a hb (.inr (.inr k7))
      rw [if_pos k7]
      refine Ev.with2 hR (sorted_ev a.f2 (by omega)) (Ev.now _) (fun k e e2 => ?_)
      unfold q20z.f
      rw [hcp, Option.bind_some, e, Option.bind_some, if_pos rfl, if_neg k1, if_neg k2, if_neg k3, if_neg k4, if_neg k5, if_neg k6, if_pos k7, e2, Option.bind_some]
    rw [if_neg k7]
    have k8 : a.f0 = 8 := by omega
    have h0 := refDo_l0 a ha r hc h2 r.2.2.2.1.length 0 [] (by omega) (by simp)
    rw [List.drop_zero, List.nil_append] at h0
    refine Ev.with hR h0 (fun k e => ?_)
    unfold q20z.f
    rw [hcp, Option.bind_some, e, Option.bind_some, if_pos rfl, if_neg k1, if_neg k2, if_neg k3, if_neg k4, if_neg k5, if_neg k6, if_neg k7, if_pos k8]
    rfl
/-! What stays so, action by action. -/
def RB (n : Nat) (r : R8) : Prop := RU r ∧ r.2.2.1.length ≤ n ∧ r.2.2.2.1.length ≤ n
theorem doR_RB (a : AC) (ha : AU a) (r : R8) (n : Nat) (hn : n ≤ 100000000) (h : RB n r) : RB (n + 64) (doR a r) := by
  obtain ⟨⟨u0, u1, u2, u3, u4, u5, u6, u7⟩, l1, l2⟩ := h
  unfold doR
  cases hb : rightB a with
  | false => exact ⟨⟨u0, u1, u2, u3, u4, u5, u6, u7⟩, by rw [if_pos rfl]; omega, by rw [if_pos rfl]; omega⟩
  | true =>
    rw [if_neg (by decide)]
    have hk := rightB_kind a hb
    split
    · exact ⟨⟨u0, u1, u2, u3, ha.2.1, u5, u6, u7⟩, Nat.le_trans l1 (by omega), Nat.le_trans l2 (by omega)⟩
    split
    · exact ⟨⟨u0, u1, u2, u3, u4, ha.2.1, u6, u7⟩, Nat.le_trans l1 (by omega), Nat.le_trans l2 (by omega)⟩
    split
    · exact ⟨⟨u0, u1, u2, u3, u4, u5, by have := ha.2.1; unfold U32 at this; show I64 a.f1; unfold I64; omega, u7⟩, Nat.le_trans l1 (by omega), Nat.le_trans l2 (by omega)⟩
    split
    · exact ⟨⟨u0, u1, u2, u3, u4, u5, u6, ha.2.1⟩, Nat.le_trans l1 (by omega), Nat.le_trans l2 (by omega)⟩
    split
    · rename_i k5
      have hl := rightB_len a hb (.inl k5)
      have hlen : (a.f2 ++ r.2.2.1).length ≤ n + 64 := by rw [List.length_append]; omega
      exact ⟨⟨u0, u1, ⟨Nat.le_trans hlen (by omega), fun z hz => (List.mem_append.1 hz).elim (ha.2.2.1.2 z) (u2.2 z)⟩, u3, u4, u5, u6, u7⟩, hlen, Nat.le_trans l2 (by omega)⟩
    split
    · rename_i k6
      have hl := rightB_len a hb (.inr (.inl k6))
      have hlen : (setU (r.2.2.2.1 ++ a.f2)).length ≤ n + 64 := by have := setU_le (r.2.2.2.1 ++ a.f2); rw [List.length_append] at this; omega
      exact ⟨⟨u0, u1, u2, ⟨Nat.le_trans hlen (by omega), fun z hz => (List.mem_append.1 ((setU_mem _ z).1 hz)).elim (u3.2 z) (ha.2.2.1.2 z)⟩, u4, u5, u6, u7⟩, Nat.le_trans l1 (by omega), hlen⟩
    split
    · rename_i k7
      have hl := rightB_len a hb (.inr (.inr k7))
      have hlen : (setU a.f2).length ≤ n + 64 := by have := setU_le a.f2; omega
      exact ⟨⟨u0, u1, u2, ⟨Nat.le_trans hlen (by omega), fun z hz => ha.2.2.1.2 z ((setU_mem _ z).1 hz)⟩, u4, u5, u6, u7⟩, Nat.le_trans l1 (by omega), hlen⟩
    · have hfl := List.length_filter_le (fun c => !takesB a.f3 [c]) r.2.2.2.1
      have hlen : (setU (r.2.2.2.1.filter (fun c => !takesB a.f3 [c]))).length ≤ n + 64 := by have := setU_le (r.2.2.2.1.filter (fun c => !takesB a.f3 [c])); omega
      exact ⟨⟨u0, u1, u2, ⟨Nat.le_trans hlen (by omega), fun z hz => u3.2 z (List.mem_filter.1 ((setU_mem _ z).1 hz)).1⟩, u4, u5, u6, u7⟩, Nat.le_trans l1 (by omega), hlen⟩
/-! One behind the other. -/
def allR (l : List AC) (r : R8) : R8 := l.foldl (fun r a => doR a r) r
theorem rdAct (l : List AC) (i : Nat) (h : i < l.length) : rd_T26 l (i : Int) = l[i] := by
  unfold rd_T26
  rw [Int.toNat_natCast, List.getD_eq_getElem?_getD, List.getElem?_eq_getElem h]
  rfl
theorem all_f_l0 (l : List AC) (hl : l.length ≤ 1000) (hu : ∀ a ∈ l, AU a) : ∀ (d i n : Nat) (r : R8), i + d = l.length → n + 64 * d ≤ 100000000 → RB n r →
    Ev (fun k => q13z.l0 k l (l.length : Int) (i : Int) r.1 r.2.1 r.2.2.1 r.2.2.2.1 r.2.2.2.2.1 r.2.2.2.2.2.1 r.2.2.2.2.2.2.1 r.2.2.2.2.2.2.2) (allR (l.drop i) r)
  | 0, i, n, r, hi, hn, hr => by
    rw [List.drop_eq_nil_of_le (by omega)]
    refine Ev.last (fun k => ?_)
    simp only [q13z.l0]
    rw [if_neg (by omega)]
    rfl
  | d + 1, i, n, r, hi, hn, hr => by
    have hil : i < l.length := by omega
    have hrd := rdAct l i hil
    have ha := hu l[i] (List.getElem_mem hil)
    rw [List.drop_eq_getElem_cons hil]
    generalize l[i] = a at hrd ha
    have hd := do_ev a ha r hr.1.2.2.2.1 (by have := hr.2.1; omega) (by have := hr.2.2; omega)
    have ih := all_f_l0 l hl hu d (i + 1) (n + 64) (doR a r) (by omega) (by omega) (doR_RB a ha r n (by omega) hr)
    refine Ev.use hd ih (fun k e => ?_)
    simp only [q13z.l0]
    rw [if_pos (by omega), if_pos (by omega), if_pos (by omega), hrd, e, Option.bind_some, wrN i (by omega)]
theorem all_ev (l : List AC) (hl : l.length ≤ 1000) (hu : ∀ a ∈ l, AU a) (r : R8) (hr : RB 10000 r) : Ev (fun k => q13z.f k l r.1 r.2.1 r.2.2.1 r.2.2.2.1 r.2.2.2.2.1 r.2.2.2.2.2.1 r.2.2.2.2.2.2.1 r.2.2.2.2.2.2.2) (allR l r) := by
  have h := all_f_l0 l hl hu l.length 0 10000 r (by omega) (by omega) hr
  rw [List.drop_zero] at h
  refine Ev.congr (fun k => ?_) h
  unfold q13z.f
  rw [copy_f r (by have := hr.2.1; omega) (by have := hr.2.2; omega), Option.bind_some]
  rfl
theorem refAll_l0 (l : List AC) (hl : l.length ≤ 1000) (hu : ∀ a ∈ l, AU a) : ∀ (d i n : Nat) (r : R8), i + d = l.length → n + 64 * d ≤ 100000000 → RB n r →
    Ev (fun k => q21z.l0 k l (l.length : Int) (i : Int) r.1 r.2.1 r.2.2.1 r.2.2.2.1 r.2.2.2.2.1 r.2.2.2.2.2.1 r.2.2.2.2.2.2.1 r.2.2.2.2.2.2.2) (allR (l.drop i) r)
  | 0, i, n, r, hi, hn, hr => by
    rw [List.drop_eq_nil_of_le (by omega)]
    refine Ev.last (fun k => ?_)
    simp only [q21z.l0]
    rw [if_neg (by omega)]
    rfl
  | d + 1, i, n, r, hi, hn, hr => by
    have hil : i < l.length := by omega
    have hrd := rdAct l i hil
    have ha := hu l[i] (List.getElem_mem hil)
    rw [List.drop_eq_getElem_cons hil]
    generalize l[i] = a at hrd ha
    have hd := refDo_ev a ha r hr.1.2.2.2.1 (by have := hr.2.1; omega) (by have := hr.2.2; omega)
    have ih := refAll_l0 l hl hu d (i + 1) (n + 64) (doR a r) (by omega) (by omega) (doR_RB a ha r n (by omega) hr)
    refine Ev.use hd ih (fun k e => ?_)
    simp only [q21z.l0]
    rw [if_pos (by omega), if_pos (by omega), if_pos (by omega), hrd, e, Option.bind_some, wrN i (by omega)]
theorem refAllR_ev (l : List AC) (hl : l.length ≤ 1000) (hu : ∀ a ∈ l, AU a) (r : R8) (hr : RB 10000 r) : Ev (fun k => q21z.f k l r.1 r.2.1 r.2.2.1 r.2.2.2.1 r.2.2.2.2.1 r.2.2.2.2.2.1 r.2.2.2.2.2.2.1 r.2.2.2.2.2.2.2) (allR l r) := by
  have h := refAll_l0 l hl hu l.length 0 10000 r (by omega) (by omega) hr
  rw [List.drop_zero] at h
  refine Ev.congr (fun k => ?_) h
  unfold q21z.f
  rw [refCopy_f r (by have := hr.2.1; omega) (by have := hr.2.2; omega), Option.bind_some]
  rfl
/-! Is it more than is looked at? -/
theorem great_l1 (l : List S53) (hl : l.length ≤ 9223372036854775807) (a0 : Int) (P : List S92) (Q : List S76) (C : List S53) (lo hi_ : Int) : ∀ (d i : Nat) (x : Int), i + d = l.length → ∃ b, Ev (fun k => q25z.l1 k x l (l.length : Int) (i : Int) a0 P Q C lo hi_) b
  | 0, i, x, hi => ⟨_, Ev.last (fun k => by
    simp only [q25z.l1]
    rw [if_neg (by omega)])⟩
  | d + 1, i, x, hi => by
    by_cases h1 : (i : Int) > 100
    · refine ⟨true, Ev.last (fun k => ?_)⟩
      simp only [q25z.l1]
      rw [if_pos (by omega), if_pos (by omega), if_pos (by omega), if_pos h1]
    · by_cases h2 : wrap64 (x + mn ((rd_T53 l (i : Int)).f1.length : Int) 10000) > 3000
      · refine ⟨true, Ev.last (fun k => ?_)⟩
        simp only [q25z.l1]
        rw [if_pos (by omega), if_pos (by omega), if_pos (by omega), if_neg h1, if_pos h2]
      · obtain ⟨b, hb⟩ := great_l1 l hl a0 P Q C lo hi_ d (i + 1) (wrap64 (x + mn ((rd_T53 l (i : Int)).f1.length : Int) 10000)) (by omega)
        refine ⟨b, Ev.step (fun k => ?_) hb⟩
        simp only [q25z.l1]
        rw [if_pos (by omega), if_pos (by omega), if_pos (by omega), if_neg h1, if_neg h2, wrN i (by omega)]
theorem refGreat_ev (a : AC) (ha : AU a) : ∃ b, Ev (fun k => q26z.f k a.f0 a.f1 a.f2 a.f3) b := by
  by_cases h : (a.f2.length : Int) > 3000
  · exact ⟨true, Ev.congr (fun k => by unfold q26z.f; rw [if_pos h]) (Ev.now _)⟩
  · obtain ⟨b, hb⟩ := great_l1 a.f3 ha.2.2.2.1 0 [] [] a.f3 0 0 a.f3.length 0 0 (by omega)
    have h0 : Ev (fun k => q25z.f k 0 [] [] a.f3 0 0) b := by
      refine Ev.step (fun k => ?_) hb
      unfold q25z.f
      simp only [q25z.l0]
      rw [if_neg (by simp)]
      rfl
    refine ⟨b, Ev.with h0 (Ev.now _) (fun k e => ?_)⟩
    unfold q26z.f
    rw [if_neg h, e, Option.bind_some]
theorem greatR_f (r : R8) : q1z.f r.1 r.2.1 r.2.2.1 r.2.2.2.1 r.2.2.2.2.1 r.2.2.2.2.2.1 r.2.2.2.2.2.2.1 r.2.2.2.2.2.2.2 = some (decide (1000 < r.2.2.1.length ∨ 1000 < r.2.2.2.1.length)) := by
  unfold q1z.f
  by_cases h : (r.2.2.1.length : Int) > 1000
  · rw [if_pos h, decide_eq_true (.inl (by omega))]
  · rw [if_neg h]
    exact congrArg some (decide_eq_decide.2 (by omega))
end Go.Proofs.Ytgelpccjdndfoaa.P

namespace Go.Proofs.Ytgelpccjdndfoaa.P
open Go.RowKit Go.Proofs.YtgelpccjdndfoaaW.PrintWords Go.Proofs.YtgelpccjdndfoaaW.PrintMore
theorem alive_ev : Ev (fun k => q23z.f k) true := by
  refine ⟨60, fun k hk => ?_⟩
  obtain ⟨m, rfl⟩ : ∃ m, k = m + 60 := ⟨k - 60, by omega⟩
  kernel_rfl
end Go.Proofs.Ytgelpccjdndfoaa.P

namespace Go.Proofs.Ytgelpccjdndfoaa.P
open Go.RowKit Go.Proofs.YtgelpccjdndfoaaW.PrintWords Go.Proofs.YtgelpccjdndfoaaW.PrintMore
set_option linter.unusedVariables false
set_option linter.unusedSimpArgs false
theorem cmpR_self (a : R8) : cmpR a a = 0 := cmpR_ord.self a
theorem actAll_l0 (l : List AC) (hl : l.length ≤ 70) (hu : ∀ a ∈ l, AU a) (r0 : R8) (hr0 : RB 10000 r0) : ∀ (d i n : Nat) (x : R8), i + d = l.length → n + 64 * d ≤ 1000000 → RB n x → allR (l.drop i) x = allR l r0 →
    Ev (fun k => q27z.l0 k l l (l.length : Int) (i : Int) r0.1 r0.2.1 r0.2.2.1 r0.2.2.2.1 r0.2.2.2.2.1 r0.2.2.2.2.2.1 r0.2.2.2.2.2.2.1 r0.2.2.2.2.2.2.2 x.1 x.2.1 x.2.2.1 x.2.2.2.1 x.2.2.2.2.1 x.2.2.2.2.2.1 x.2.2.2.2.2.2.1 x.2.2.2.2.2.2.2) true
  | 0, i, n, x, hi, hn, hx, hf => by
    rw [List.drop_eq_nil_of_le (by omega)] at hf
    have hxe : x = allR l r0 := hf
    have e1 := all_ev l (by omega) hu r0 hr0
    have e2 := refAllR_ev l (by omega) hu r0 hr0
    rw [← hxe] at e1 e2
    have e3 := refCmp_ev x x hx.1 hx.1
    rw [cmpR_self] at e3
    refine Ev.use3 e1 e2 e3 (Ev.now _) (fun k q1 q2 q3 => ?_)
    simp only [q27z.l0]
    rw [if_neg (by omega), q1, Option.bind_some, q2, Option.bind_some, q3, Option.bind_some, if_pos rfl, Option.bind_some]
    rfl
  | d + 1, i, n, x, hi, hn, hx, hf => by
    have hil : i < l.length := by omega
    have hrd := rdAct l i hil
    have ha := hu l[i] (List.getElem_mem hil)
    rw [List.drop_eq_getElem_cons hil] at hf
    generalize l[i] = a at hrd ha hf
    by_cases h1 : ((a.f2.length : Nat) : Int) > 100
    · refine Ev.last (fun k => ?_)
      simp only [q27z.l0]
      rw [if_pos (by omega), if_pos (by omega), if_pos (by omega), hrd, if_pos h1]
    · obtain ⟨b, hb⟩ := refGreat_ev a ha
      cases b with
      | true =>
        refine Ev.use hb (Ev.now _) (fun k q1 => ?_)
        simp only [q27z.l0]
        rw [if_pos (by omega), if_pos (by omega), if_pos (by omega), hrd, if_neg h1, q1, Option.bind_some, if_pos rfl]
      | false =>
        have hd := do_ev a ha x hx.1.2.2.2.1 (by have := hx.2.1; omega) (by have := hx.2.2; omega)
        have ih := actAll_l0 l hl hu r0 hr0 d (i + 1) (n + 64) (doR a x) (by omega) (by omega) (doR_RB a ha x n (by omega) hx) hf
        refine Ev.use2 hb hd ih (fun k q1 q2 => ?_)
        simp only [q27z.l0]
        rw [if_pos (by omega), if_pos (by omega), if_pos (by omega), hrd, if_neg h1, q1, Option.bind_some, if_neg (by decide), q2, Option.bind_some, wrN i (by omega)]
theorem pure_ActAll (l0 : List (S26)) (a1_0_0 : Int) (a1_0_1 : Int) (l1_1 : List Int) (l1_2 : List Int) (a1_3 : Int) (a1_4 : Int) (a1_5 : Int) (a1_6 : Int) (h0 : (l0.length ≤ 9223372036854775807 ∧ ∀ z_ ∈ l0, good26 z_)) (h1 : (Lit.int .u32 a1_0_0).wf = true) (h2 : (Lit.int .i64 a1_0_1).wf = true) (h3 : (l1_1.length ≤ 9223372036854775807 ∧ ∀ z_ ∈ l1_1, (Lit.int .u32 z_).wf = true)) (h4 : (l1_2.length ≤ 9223372036854775807 ∧ ∀ z_ ∈ l1_2, (Lit.int .u32 z_).wf = true)) (h5 : (Lit.int .u32 a1_3).wf = true) (h6 : (Lit.int .u32 a1_4).wf = true) (h7 : (Lit.int .i64 a1_5).wf = true) (h8 : (Lit.int .u32 a1_6).wf = true) : ∃ k, q27z.f k l0 a1_0_0 a1_0_1 l1_1 l1_2 a1_3 a1_4 a1_5 a1_6 = some true := by
  obtain ⟨r, hr⟩ : ∃ r : R8, r = (a1_0_0, a1_0_1, l1_1, l1_2, a1_3, a1_4, a1_5, a1_6) := ⟨_, rfl⟩
  have hRU : RU r := by rw [hr]; exact ⟨u32_of h1, i64_of h2, lu_of h3, lu_of h4, u32_of h5, u32_of h6, i64_of h7, u32_of h8⟩
  have hu : ∀ a ∈ l0, AU a := fun a ha => aU_of (h0.2 a ha)
  have hj1 : Ev (fun k => q27z.j0 k l0 true r.1 r.2.1 r.2.2.1 r.2.2.2.1 r.2.2.2.2.1 r.2.2.2.2.2.1 r.2.2.2.2.2.2.1 r.2.2.2.2.2.2.2) true := Ev.last (fun k => by
    simp only [q27z.j0]
    rw [if_pos trivial])
  have main : Ev (fun k => q27z.f k l0 r.1 r.2.1 r.2.2.1 r.2.2.2.1 r.2.2.2.2.1 r.2.2.2.2.2.1 r.2.2.2.2.2.2.1 r.2.2.2.2.2.2.2) true := by
    by_cases hg : (l0.length : Int) > 70
    · refine Ev.with alive_ev hj1 (fun k q => ?_)
      unfold q27z.f
      rw [q, Option.bind_some, if_pos rfl, if_pos hg]
    · by_cases hG : 1000 < r.2.2.1.length ∨ 1000 < r.2.2.2.1.length
      · refine Ev.with alive_ev hj1 (fun k q => ?_)
        unfold q27z.f
        rw [q, Option.bind_some, if_pos rfl, if_neg hg, greatR_f, Option.bind_some, decide_eq_true hG]
      · have hB : RB 10000 r := ⟨hRU, by omega, by omega⟩
        have h := actAll_l0 l0 (by omega) hu r hB l0.length 0 10000 r (by omega) (by omega) hB (by rw [List.drop_zero])
        have hj0 : Ev (fun k => q27z.j0 k l0 false r.1 r.2.1 r.2.2.1 r.2.2.2.1 r.2.2.2.2.1 r.2.2.2.2.2.1 r.2.2.2.2.2.2.1 r.2.2.2.2.2.2.2) true := by
          refine Ev.step (fun k => ?_) h
          simp only [q27z.j0]
          rw [if_neg (by decide), refCopy_f r (by omega) (by omega), Option.bind_some]
          rfl
        refine Ev.with alive_ev hj0 (fun k q => ?_)
        unfold q27z.f
        rw [q, Option.bind_some, if_pos rfl, if_neg hg, greatR_f, Option.bind_some, decide_eq_false hG]
  rw [hr] at main
  exact main.rounds
end Go.Proofs.Ytgelpccjdndfoaa.P

namespace Go.Proofs.Ytgelpccjdndfoaa.actAll
open Go.ChangeShapes Go.WideShapes Go.ChangeAt Go.RowKit
open Go.ChangeMaps (open_string shut_string)
open Go.Proofs.YtgelpccjdndfoaaW.PrintWords Go.Proofs.YtgelpccjdndfoaaW.PrintLast Go.Proofs.YtgelpccjdndfoaaW.PrintMore Go.Proofs.Ytgelpccjdndfoaa.P
set_option linter.unusedVariables false
set_option linter.unusedSimpArgs false
theorem own : ownKnob Try.prog.godebug = none := by kernel_rfl
theorem laidOut : laidOutB Try.prog = true := by kernel_rfl
set_option maxRecDepth 100000 in
theorem lifted (os : Os) (started : os.Started) (H : Type) (enc : TypeId × Value → H) :
    ReturnsInHanded {} Try.checked os 6 .any (Rows.actAllSpec.pre6 enc Try.prog Try.f6 Rows.actAllRow.domain false) (Rows.actAllSpec.post enc Try.prog Try.f6 false true false false) := by
  refine returnsInHanded_of_change_sized (C := Try.checked) own started (by kernel_rfl) Try.func6
    (ChangeSpec.witness6 (enc := enc) (C := Try.checked) false ⟨#[], #[.slice none 0 0, .agg #[.int .u32 0, .int .i64 0, .slice none 0 0, .slice none 0 0, .int .u32 0, .int .u32 0, .int .i64 0, .int .u32 0]], []⟩ 8 (by kernel_rfl) (by kernel_rfl) (by kernel_rfl) (by kernel_rfl)) ?_
  intro W base args ds gs before hval0 hW hcnd hsz0 _
  have hval : ∀ (j : Nat) t v, Try.f6.params[j]? = some t → args[j]? = some v → Value.okWide Try.prog W .any base t v := hval0
  have hW' := hW
  obtain ⟨p, q, hA0, hV, rfl, hfz, hnd⟩ := hW
  have hA : DataW.TrodAll enc Try.prog W 0 (fun _ => true) true Try.f6.params.toList args.toList ds p := hA0
  rw [Try.params6] at hA hval
  obtain ⟨v0, vs0, d0, ds0, p0, q0, hargs, rfl, rfl, h0, r0⟩ := trodAll_cons hA
  obtain ⟨v1, vs1, d1, ds1, p1, q1, rfl, rfl, rfl, h1, r1⟩ := trodAll_cons r0
  obtain ⟨rfl, rfl, rfl⟩ := trodAll_nil r1
  obtain rfl : args = #[v0, v1] := by cases args; simp_all
  obtain ⟨rfl, rfl⟩ := trodVars_none hV
  obtain ⟨a0, len0, cap0, rfl⟩ := okWide_slice Try.underlying45 (hval 0 45 v0 rfl rfl)
  have k0 := h0
  have lt0 : ∀ x ∈ p0, x.block < W.heap.size := by obtain ⟨m, hm⟩ := k0; exact DataW.trod_lt m _ _ _ hm
  obtain ⟨l0, hK0, hg0⟩ : ∃ l_ : List (S26), (Kd.slice 26 k26).K W l_ [.slice a0 len0 cap0] ∧ (l_.length ≤ 9223372036854775807 ∧ ∀ z_ ∈ l_, good26 z_) := by obtain ⟨fuel, hf⟩ := h0; exact (opens_slice Try.underlying45 (by kernel_rfl) opens_T26) _ _ _ (by simpa [Value.cells] using hf)
  obtain ⟨A0_, c0_, hc0, hle0, hC0⟩ := hK0
  simp only [List.cons.injEq, Value.slice.injEq, and_true] at hc0
  obtain ⟨rfl, rfl, rfl⟩ := hc0
  obtain ⟨cs1, rfl, hz1⟩ := okWide_struct Try.underlying30 (hval 1 30 v1 rfl rfl)
  have k1 := h1
  have lt1 : ∀ x ∈ p1, x.block < W.heap.size := by obtain ⟨m, hm⟩ := k1; exact DataW.trod_lt m _ _ _ hm
  obtain ⟨⟨⟨l1_0_0, l1_0_1⟩, l1_1, l1_2, l1_3, l1_4, l1_5, l1_6⟩, hK1, hg1⟩ : ∃ x_ : S30, k30.K W x_ cs1.toList ∧ good30 x_ := by obtain ⟨fuel, hf⟩ := h1; exact opens_T30 _ _ _ (by simpa [Value.cells] using hf)
  obtain ⟨A1_1_, c1_1_, A1_2_, c1_2_, hcs1, hle1_1, hC1_1, hle1_2, hC1_2⟩ := k30_open hK1
  obtain rfl : cs1 = #[.int .u32 l1_0_0, .int .i64 l1_0_1, .slice A1_1_ l1_1.length c1_1_, .slice A1_2_ l1_2.length c1_2_, .int .u32 l1_3, .int .u32 l1_4, .int .i64 l1_5, .int .u32 l1_6] := Array.ext' hcs1
  obtain ⟨⟨g1_0_0, g1_0_1⟩, g1_1, g1_2, g1_3, g1_4, g1_5, g1_6⟩ := hg1
  clear hA0 hval0 hsz0
  obtain ⟨k_, hk_⟩ := pure_ActAll l0 l1_0_0 l1_0_1 l1_1 l1_2 l1_3 l1_4 l1_5 l1_6 hg0 g1_0_0 g1_0_1 g1_1 g1_2 g1_3 g1_4 g1_5 g1_6
  refine (q27z.calls k_ a0 cap0 l0 l1_0_0 l1_0_1 A1_1_ c1_1_ l1_1 A1_2_ c1_2_ l1_2 l1_3 l1_4 l1_5 l1_6 true W hC0 hle0 hC1_1 hle1_1 hC1_2 hle1_2 hk_).mono fun e W' ⟨he, bel⟩ => ?_
  subst he
  exact ⟨_, rfl, _, _, _, [], _, [], hW', trodAll_mk1 (shut_bool Try.underlying4 _), (trodAll_cons_mk (Below.trod laidOut (by kernel_rfl) (of_decide_eq_true (by kernel_rfl)) k0 bel lt0) (trodAll_cons_mk (Below.trod laidOut (by kernel_rfl) (of_decide_eq_true (by kernel_rfl)) k1 bel lt1) trodAll_mk0)), rfl, bel.frame _, fun h => by cases h⟩
theorem over : Rows.actAllRow.holds Try.pinned (OpenSpec.ofChange Rows.actAllSpec) :=
  OpenClaim.holds_of_wide 6 Try.f6 rfl rfl rfl rfl rfl rfl rfl ⟨rfl, rfl, rfl, rfl, rfl⟩ rfl rfl rfl rfl rfl (by kernel_rfl) Try.func6 (by kernel_rfl)
    (of_decide_eq_true (by kernel_rfl)) (by unfold Func.isWrapper; first | (rw [if_pos (by decide +kernel)]; kernel_rfl) | (rw [if_neg (by decide +kernel)]; exact ⟨rfl, rfl⟩))
    (fun os started H enc _ => lifted os started H enc)
theorem proved : Rows.ActAllSaid := over
end Go.Proofs.Ytgelpccjdndfoaa.actAll
namespace Go.Proofs.Ytgelpccjdndfoaa
/-- The row, under a short name, for the claim. -/
theorem actAll_holds : Rows.ActAllSaid := actAll.proved
#print axioms actAll_holds
end Go.Proofs.Ytgelpccjdndfoaa
