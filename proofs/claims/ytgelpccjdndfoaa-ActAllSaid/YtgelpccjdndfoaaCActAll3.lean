/- Part of the proof of the law ActAll: the functions that it reaches, by contract. -/
import Derived.Test.YtgelpccjdndfoaaCActAll0
import Derived.Test.YtgelpccjdndfoaaCActAll1
import Derived.Test.YtgelpccjdndfoaaCActAll2
namespace Go.Proofs.Ytgelpccjdndfoaa.P
open Go.RowKit Go.Proofs.YtgelpccjdndfoaaW.PrintWords Go.Proofs.YtgelpccjdndfoaaW.PrintLast Go.Proofs.YtgelpccjdndfoaaW.PrintMore
attribute [local go_sem] max2_int min2_int max_two min_two max_three min_three max_four min_four
set_option linter.unusedVariables false
set_option linter.unusedSimpArgs false

/-! ### dragomanref12_Do: function 17 -/
def q20z.l0 : Nat → List Int → List Int → Int → Int → Int → Int → List Int → List (S53) → Int → Int → List Int → List Int → Int → Int → Int → Int → Option (Int × Int × List Int × List Int × Int × Int × Int × Int)
 | 0, _, _, _, _, _, _, _, _, _, _, _, _, _, _, _, _ => none
 | k + 1, x5, x65, x66, x67, x2000, x2001, x2002, x2003, x3000, x3001, x3002, x3003, x3004, x3005, x3006, x3007 => if x67 < x66 then (if 0 ≤ x67 then (if x67 < (x65.length : Int) then ((q18z.f k x2003 (([rd x65 x67] : List Int))).bind fun t39 => (if t39 = true then (q20z.l0 k x5 x65 x66 (wrap64 (x67 + 1)) x2000 x2001 x2002 x2003 x3000 x3001 x3002 x3003 x3004 x3005 x3006 x3007) else (if x5.length < 35184372088832 then (q20z.l0 k (x5 ++ [rd x65 x67]) x65 x66 (wrap64 (x67 + 1)) x2000 x2001 x2002 x2003 x3000 x3001 x3002 x3003 x3004 x3005 x3006 x3007) else (none)))) else (none)) else (none)) else ((q19z.f k x5).bind fun t43 => (some (x3000, x3001, x3002, t43, x3004, x3005, x3006, x3007)))
def q20z.f (k : Nat) (a0_0 : Int) (a0_1 : Int) (l0_2 : List Int) (l0_3 : List (S53)) (a1_0 : Int) (a1_1 : Int) (l1_2 : List Int) (l1_3 : List Int) (a1_4 : Int) (a1_5 : Int) (a1_6 : Int) (a1_7 : Int) : Option (Int × Int × List Int × List Int × Int × Int × Int × Int) := (q2z.f a1_0 a1_1 l1_2 l1_3 a1_4 a1_5 a1_6 a1_7).bind fun bt4 => ((q15z.f k a0_0 a0_1 l0_2 l0_3).bind fun t16 => (if t16 = true then (if a0_0 = 1 then (some (bt4.1, bt4.2.1, bt4.2.2.1, bt4.2.2.2.1, a0_1, bt4.2.2.2.2.2.1, bt4.2.2.2.2.2.2.1, bt4.2.2.2.2.2.2.2)) else (if a0_0 = 2 then (some (bt4.1, bt4.2.1, bt4.2.2.1, bt4.2.2.2.1, bt4.2.2.2.2.1, a0_1, bt4.2.2.2.2.2.2.1, bt4.2.2.2.2.2.2.2)) else (if a0_0 = 3 then (some (bt4.1, bt4.2.1, bt4.2.2.1, bt4.2.2.2.1, bt4.2.2.2.2.1, bt4.2.2.2.2.2.1, wrap64 (a0_1), bt4.2.2.2.2.2.2.2)) else (if a0_0 = 4 then (some (bt4.1, bt4.2.1, bt4.2.2.1, bt4.2.2.2.1, bt4.2.2.2.2.1, bt4.2.2.2.2.2.1, bt4.2.2.2.2.2.2.1, a0_1)) else (if a0_0 = 5 then ((some (([] : List Int) : List Int)).bind fun y17 => (if y17.length + l0_2.length < 35184372088832 then ((some (y17 ++ l0_2 : List Int)).bind fun y20 => (if y20.length + bt4.2.2.1.length < 35184372088832 then (some (bt4.1, bt4.2.1, (y20 ++ bt4.2.2.1), bt4.2.2.2.1, bt4.2.2.2.2.1, bt4.2.2.2.2.2.1, bt4.2.2.2.2.2.2.1, bt4.2.2.2.2.2.2.2)) else (none))) else (none))) else (if a0_0 = 6 then (if bt4.2.2.2.1.length + l0_2.length < 35184372088832 then ((q19z.f k (bt4.2.2.2.1 ++ l0_2)).bind fun t29 => (some (bt4.1, bt4.2.1, bt4.2.2.1, t29, bt4.2.2.2.2.1, bt4.2.2.2.2.2.1, bt4.2.2.2.2.2.2.1, bt4.2.2.2.2.2.2.2))) else (none)) else (if a0_0 = 7 then ((q19z.f k l0_2).bind fun t32 => (some (bt4.1, bt4.2.1, bt4.2.2.1, t32, bt4.2.2.2.2.1, bt4.2.2.2.2.2.1, bt4.2.2.2.2.2.2.1, bt4.2.2.2.2.2.2.2))) else (if a0_0 = 8 then (q20z.l0 k ([] : List Int) bt4.2.2.2.1 (bt4.2.2.2.1.length : Int) 0 a0_0 a0_1 l0_2 l0_3 bt4.1 bt4.2.1 bt4.2.2.1 bt4.2.2.2.1 bt4.2.2.2.2.1 bt4.2.2.2.2.2.1 bt4.2.2.2.2.2.2.1 bt4.2.2.2.2.2.2.2) else (some (bt4.1, bt4.2.1, bt4.2.2.1, bt4.2.2.2.1, bt4.2.2.2.2.1, bt4.2.2.2.2.2.1, bt4.2.2.2.2.2.2.1, bt4.2.2.2.2.2.2.2)))))))))) else (some (bt4.1, bt4.2.1, bt4.2.2.1, bt4.2.2.2.1, bt4.2.2.2.2.1, bt4.2.2.2.2.2.1, bt4.2.2.2.2.2.2.1, bt4.2.2.2.2.2.2.2))))
theorem q20z.mono_l : ∀ k, (∀ y0 y1 y2 y3 y4 y5 y6 y7 y8 y9 y10 y11 y12 y13 y14 y15, LeO (q20z.l0 k y0 y1 y2 y3 y4 y5 y6 y7 y8 y9 y10 y11 y12 y13 y14 y15) (q20z.l0 (k + 1) y0 y1 y2 y3 y4 y5 y6 y7 y8 y9 y10 y11 y12 y13 y14 y15))
 | 0 => fun _ _ _ _ _ _ _ _ _ _ _ _ _ _ _ _ r h => by simp [q20z.l0] at h
 | k + 1 => by
  have ih0 := q20z.mono_l k
  ·
   intro y0 y1 y2 y3 y4 y5 y6 y7 y8 y9 y10 y11 y12 y13 y14 y15
   unfold q20z.l0
   repeat' first
   | (with_reducible exact ih0 _ _ _ _ _ _ _ _ _ _ _ _ _ _ _ _)
   | (with_reducible exact q19z.mono _ _)
   | (with_reducible exact q18z.mono _ _ _)
   | (with_reducible exact q15z.mono _ _ _ _ _)
   | (with_reducible exact LeO.refl _)
   | (with_reducible exact LeO.none _)
   | (with_reducible refine LeO.ite ?_ ?_)
   | (with_reducible refine LeO.bind ?_ (fun _ => ?_))
   | exact ih0 _ _ _ _ _ _ _ _ _ _ _ _ _ _ _ _
   | exact q19z.mono _ _
   | exact q18z.mono _ _ _
   | exact q15z.mono _ _ _ _ _
   | exact LeO.none _
   | refine LeO.ite ?_ ?_
   | refine LeO.bind ?_ (fun _ => ?_)
theorem q20z.mono : ∀ a0 a1 a2 a3 a4 a5 a6 a7 a8 a9 a10 a11 k, LeO (q20z.f k a0 a1 a2 a3 a4 a5 a6 a7 a8 a9 a10 a11) (q20z.f (k + 1) a0 a1 a2 a3 a4 a5 a6 a7 a8 a9 a10 a11) := by
 intro a0 a1 a2 a3 a4 a5 a6 a7 a8 a9 a10 a11 k
 have ih0 := q20z.mono_l k
 unfold q20z.f
 repeat' first
   | (with_reducible exact ih0 _ _ _ _ _ _ _ _ _ _ _ _ _ _ _ _)
   | (with_reducible exact q19z.mono _ _)
   | (with_reducible exact q18z.mono _ _ _)
   | (with_reducible exact q15z.mono _ _ _ _ _)
   | (with_reducible exact LeO.refl _)
   | (with_reducible exact LeO.none _)
   | (with_reducible refine LeO.ite ?_ ?_)
   | (with_reducible refine LeO.bind ?_ (fun _ => ?_))
   | exact ih0 _ _ _ _ _ _ _ _ _ _ _ _ _ _ _ _
   | exact q19z.mono _ _
   | exact q18z.mono _ _ _
   | exact q15z.mono _ _ _ _ _
   | exact LeO.none _
   | refine LeO.ite ?_ ?_
   | refine LeO.bind ?_ (fun _ => ?_)
def q20z.T14 : Bool × List (List Nat × List Nat) := (true, [([], []), ([], []), ([1], [1]), ([0, 2], [0, 2]), ([], []), ([4], [4]), ([3, 5, 3], [3, 5]), ([0, 1, 2, 3, 4, 5, 6], []), ([7, 6, 6, 0, 1, 2, 3, 4, 5, 6], [6, 7])])
def q20z.B14 : List Nat := [0, 0, 2, 7, 0, 16, 63, 127, 255]
theorem q20z.tab14 : rtab .any (opsOf Try.f17 14) = q20z.T14 := by kernel_rfl
theorem q20z.bits14 : waitsOk q20z.T14.2 q20z.B14 = true := by kernel_rfl
set_option maxHeartbeats 8000000 in
set_option maxRecDepth 100000 in
theorem q20z.calls (k : Nat) (a0_0 : Int) (a0_1 : Int) (A0_2 : Option Addr) (c0_2 : Nat) (l0_2 : List Int) (A0_3 : Option Addr) (c0_3 : Nat) (l0_3 : List (S53)) (a1_0 : Int) (a1_1 : Int) (A1_2 : Option Addr) (c1_2 : Nat) (l1_2 : List Int) (A1_3 : Option Addr) (c1_3 : Nat) (l1_3 : List Int) (a1_4 : Int) (a1_5 : Int) (a1_6 : Int) (a1_7 : Int) (r1 : Int) (r2 : Int) (r3 : List Int) (r4 : List Int) (r5 : Int) (r6 : Int) (r7 : Int) (r8 : Int) (w : World) (hr0_2 : Kd.C (Kd.int .u32) w A0_2 l0_2.length l0_2) (hc0_2 : l0_2.length ≤ c0_2) (hr0_3 : Kd.C k53 w A0_3 l0_3.length l0_3) (hc0_3 : l0_3.length ≤ c0_3) (hr1_2 : Kd.C (Kd.int .u32) w A1_2 l1_2.length l1_2) (hc1_2 : l1_2.length ≤ c1_2) (hr1_3 : Kd.C (Kd.int .u32) w A1_3 l1_3.length l1_3) (hc1_3 : l1_3.length ≤ c1_3) (h : q20z.f k a0_0 a0_1 l0_2 l0_3 a1_0 a1_1 l1_2 l1_3 a1_4 a1_5 a1_6 a1_7 = some (r1, r2, r3, r4, r5, r6, r7, r8)) :
  Calls Try.prog 17 #[.agg #[.int .i64 a0_0, .int .u32 a0_1, .slice A0_2 l0_2.length c0_2, .slice A0_3 l0_3.length c0_3], .agg #[.int .u32 a1_0, .int .i64 a1_1, .slice A1_2 l1_2.length c1_2, .slice A1_3 l1_3.length c1_3, .int .u32 a1_4, .int .u32 a1_5, .int .i64 a1_6, .int .u32 a1_7]] w fun e w' => ∃ v2_ v3_ : Value, e = .returned (.agg #[.int .u32 r1, .int .i64 r2, v2_, v3_, .int .u32 r5, .int .u32 r6, .int .i64 r7, .int .u32 r8]) ∧ Kd.R (Kd.int .u32) 22 w' w.heap.size (fun k_ => some k_ ≠ (v3_ : Value).ownBlock) v2_ r3 ∧ Kd.R (Kd.int .u32) 22 w' w.heap.size (fun k_ => some k_ ≠ (v2_ : Value).ownBlock) v3_ r4 ∧ Below w.heap.size w w' := by
 have hu26 := Try.underlying26
 have hu30 := Try.underlying30
 have HR0_2 := Aside0.mk hr0_2
 have HC0_2 := Aside0.mk hc0_2
 clear hr0_2 hc0_2
 have HR0_3 := Aside0.mk hr0_3
 have HC0_3 := Aside0.mk hc0_3
 clear hr0_3 hc0_3
 have HR1_2 := Aside0.mk hr1_2
 have HC1_2 := Aside0.mk hc1_2
 clear hr1_2 hc1_2
 have HR1_3 := Aside0.mk hr1_3
 have HC1_3 := Aside0.mk hc1_3
 clear hr1_3 hc1_3
 have HB := Aside0.mk (Below.refl w.heap.size w)
 have H : ((q2z.f a1_0 a1_1 l1_2 l1_3 a1_4 a1_5 a1_6 a1_7).bind fun bt4 => ((q15z.f k a0_0 a0_1 l0_2 l0_3).bind fun t16 => (if t16 = true then (if a0_0 = 1 then (some (bt4.1, bt4.2.1, bt4.2.2.1, bt4.2.2.2.1, a0_1, bt4.2.2.2.2.2.1, bt4.2.2.2.2.2.2.1, bt4.2.2.2.2.2.2.2)) else (if a0_0 = 2 then (some (bt4.1, bt4.2.1, bt4.2.2.1, bt4.2.2.2.1, bt4.2.2.2.2.1, a0_1, bt4.2.2.2.2.2.2.1, bt4.2.2.2.2.2.2.2)) else (if a0_0 = 3 then (some (bt4.1, bt4.2.1, bt4.2.2.1, bt4.2.2.2.1, bt4.2.2.2.2.1, bt4.2.2.2.2.2.1, wrap64 (a0_1), bt4.2.2.2.2.2.2.2)) else (if a0_0 = 4 then (some (bt4.1, bt4.2.1, bt4.2.2.1, bt4.2.2.2.1, bt4.2.2.2.2.1, bt4.2.2.2.2.2.1, bt4.2.2.2.2.2.2.1, a0_1)) else (if a0_0 = 5 then ((some (([] : List Int) : List Int)).bind fun y17 => (if y17.length + l0_2.length < 35184372088832 then ((some (y17 ++ l0_2 : List Int)).bind fun y20 => (if y20.length + bt4.2.2.1.length < 35184372088832 then (some (bt4.1, bt4.2.1, (y20 ++ bt4.2.2.1), bt4.2.2.2.1, bt4.2.2.2.2.1, bt4.2.2.2.2.2.1, bt4.2.2.2.2.2.2.1, bt4.2.2.2.2.2.2.2)) else (none))) else (none))) else (if a0_0 = 6 then (if bt4.2.2.2.1.length + l0_2.length < 35184372088832 then ((q19z.f k (bt4.2.2.2.1 ++ l0_2)).bind fun t29 => (some (bt4.1, bt4.2.1, bt4.2.2.1, t29, bt4.2.2.2.2.1, bt4.2.2.2.2.2.1, bt4.2.2.2.2.2.2.1, bt4.2.2.2.2.2.2.2))) else (none)) else (if a0_0 = 7 then ((q19z.f k l0_2).bind fun t32 => (some (bt4.1, bt4.2.1, bt4.2.2.1, t32, bt4.2.2.2.2.1, bt4.2.2.2.2.2.1, bt4.2.2.2.2.2.2.1, bt4.2.2.2.2.2.2.2))) else (if a0_0 = 8 then (q20z.l0 k ([] : List Int) bt4.2.2.2.1 (bt4.2.2.2.1.length : Int) 0 a0_0 a0_1 l0_2 l0_3 bt4.1 bt4.2.1 bt4.2.2.1 bt4.2.2.2.1 bt4.2.2.2.2.1 bt4.2.2.2.2.2.1 bt4.2.2.2.2.2.2.1 bt4.2.2.2.2.2.2.2) else (some (bt4.1, bt4.2.1, bt4.2.2.1, bt4.2.2.2.1, bt4.2.2.2.2.1, bt4.2.2.2.2.2.1, bt4.2.2.2.2.2.2.1, bt4.2.2.2.2.2.2.2)))))))))) else (some (bt4.1, bt4.2.1, bt4.2.2.1, bt4.2.2.2.1, bt4.2.2.2.2.1, bt4.2.2.2.2.2.1, bt4.2.2.2.2.2.2.1, bt4.2.2.2.2.2.2.2))))) = some (r1, r2, r3, r4, r5, r6, r7, r8) := h
 clear h
 replace H := Option.bind_eq_some_iff.mp H
 obtain ⟨⟨t4, t5, t6, t9, t12, t13, t14, t15⟩, A30, H⟩ := H
 replace H : ((q15z.f k a0_0 a0_1 l0_2 l0_3).bind fun t16 => (if t16 = true then (if a0_0 = 1 then (some (t4, t5, t6, t9, a0_1, t13, t14, t15)) else (if a0_0 = 2 then (some (t4, t5, t6, t9, t12, a0_1, t14, t15)) else (if a0_0 = 3 then (some (t4, t5, t6, t9, t12, t13, wrap64 (a0_1), t15)) else (if a0_0 = 4 then (some (t4, t5, t6, t9, t12, t13, t14, a0_1)) else (if a0_0 = 5 then ((some (([] : List Int) : List Int)).bind fun y17 => (if y17.length + l0_2.length < 35184372088832 then ((some (y17 ++ l0_2 : List Int)).bind fun y20 => (if y20.length + t6.length < 35184372088832 then (some (t4, t5, (y20 ++ t6), t9, t12, t13, t14, t15)) else (none))) else (none))) else (if a0_0 = 6 then (if t9.length + l0_2.length < 35184372088832 then ((q19z.f k (t9 ++ l0_2)).bind fun t29 => (some (t4, t5, t6, t29, t12, t13, t14, t15))) else (none)) else (if a0_0 = 7 then ((q19z.f k l0_2).bind fun t32 => (some (t4, t5, t6, t32, t12, t13, t14, t15))) else (if a0_0 = 8 then (q20z.l0 k ([] : List Int) t9 (t9.length : Int) 0 a0_0 a0_1 l0_2 l0_3 t4 t5 t6 t9 t12 t13 t14 t15) else (some (t4, t5, t6, t9, t12, t13, t14, t15)))))))))) else (some (t4, t5, t6, t9, t12, t13, t14, t15)))) = some (r1, r2, r3, r4, r5, r6, r7, r8) := H
 have A3 := Aside0.mk A30
 clear A30
 replace H := Option.bind_eq_some_iff.mp H
 obtain ⟨t16, A40, H⟩ := H
 replace H : (if t16 = true then (if a0_0 = 1 then (some (t4, t5, t6, t9, a0_1, t13, t14, t15)) else (if a0_0 = 2 then (some (t4, t5, t6, t9, t12, a0_1, t14, t15)) else (if a0_0 = 3 then (some (t4, t5, t6, t9, t12, t13, wrap64 (a0_1), t15)) else (if a0_0 = 4 then (some (t4, t5, t6, t9, t12, t13, t14, a0_1)) else (if a0_0 = 5 then ((some (([] : List Int) : List Int)).bind fun y17 => (if y17.length + l0_2.length < 35184372088832 then ((some (y17 ++ l0_2 : List Int)).bind fun y20 => (if y20.length + t6.length < 35184372088832 then (some (t4, t5, (y20 ++ t6), t9, t12, t13, t14, t15)) else (none))) else (none))) else (if a0_0 = 6 then (if t9.length + l0_2.length < 35184372088832 then ((q19z.f k (t9 ++ l0_2)).bind fun t29 => (some (t4, t5, t6, t29, t12, t13, t14, t15))) else (none)) else (if a0_0 = 7 then ((q19z.f k l0_2).bind fun t32 => (some (t4, t5, t6, t32, t12, t13, t14, t15))) else (if a0_0 = 8 then (q20z.l0 k ([] : List Int) t9 (t9.length : Int) 0 a0_0 a0_1 l0_2 l0_3 t4 t5 t6 t9 t12 t13 t14 t15) else (some (t4, t5, t6, t9, t12, t13, t14, t15)))))))))) else (some (t4, t5, t6, t9, t12, t13, t14, t15))) = some (r1, r2, r3, r4, r5, r6, r7, r8) := H
 have A4 := Aside0.mk A40
 clear A40
 by_cases c5 : t16 = true
 ·
  subst c5
  have H1 : (if a0_0 = 1 then (some (t4, t5, t6, t9, a0_1, t13, t14, t15)) else (if a0_0 = 2 then (some (t4, t5, t6, t9, t12, a0_1, t14, t15)) else (if a0_0 = 3 then (some (t4, t5, t6, t9, t12, t13, wrap64 (a0_1), t15)) else (if a0_0 = 4 then (some (t4, t5, t6, t9, t12, t13, t14, a0_1)) else (if a0_0 = 5 then ((some (([] : List Int) : List Int)).bind fun y17 => (if y17.length + l0_2.length < 35184372088832 then ((some (y17 ++ l0_2 : List Int)).bind fun y20 => (if y20.length + t6.length < 35184372088832 then (some (t4, t5, (y20 ++ t6), t9, t12, t13, t14, t15)) else (none))) else (none))) else (if a0_0 = 6 then (if t9.length + l0_2.length < 35184372088832 then ((q19z.f k (t9 ++ l0_2)).bind fun t29 => (some (t4, t5, t6, t29, t12, t13, t14, t15))) else (none)) else (if a0_0 = 7 then ((q19z.f k l0_2).bind fun t32 => (some (t4, t5, t6, t32, t12, t13, t14, t15))) else (if a0_0 = 8 then (q20z.l0 k ([] : List Int) t9 (t9.length : Int) 0 a0_0 a0_1 l0_2 l0_3 t4 t5 t6 t9 t12 t13 t14 t15) else (some (t4, t5, t6, t9, t12, t13, t14, t15)))))))))) = some (r1, r2, r3, r4, r5, r6, r7, r8) := by rw [if_pos rfl] at H; exact H
  clear H
  have H := H1
  clear H1
  have HH_c6 := Aside0.mk H
  clear H
  go_enter Try.func17, Try.ntmps17
  go_upto_region 4 with (first | ((with_reducible refine gate_dst (N := 2) rfl ?_); refine box_event ?hg (N := 2) ?hd (cs := #[.int .i64 a0_0, .int .u32 a0_1, .slice A0_2 l0_2.length c0_2, .slice A0_3 l0_3.length c0_3]) (t := 26) ?hr ?_; (case hd => rfl); (case hg => rfl); (case hr => first | (go_simp; done) | (go_simp; rfl)); intro gb1 hg w7 hbox hb; have n0_ := hbS HB hb; have n1_ := Aside0.mk (hbox); have n2_ := Aside0.mk ((by rw [hg]; exact (below_size (hbW HB)) : w.heap.size ≤ gb1)); have n3_ := Aside0.mk ((by rw [hg]; exact (below_size (hbW HB)) : w.heap.size ≤ gb1)); clear HB; have HB := n0_; have BK1 := n1_; have GW1 := n2_; have GE1 := n3_; clear n0_ n1_ n2_ n3_; clear hb hbox hg) | ((with_reducible refine gate_dst (N := 3) rfl ?_); refine box_event ?hg (N := 3) ?hd (cs := #[.int .u32 a1_0, .int .i64 a1_1, .slice A1_2 l1_2.length c1_2, .slice A1_3 l1_3.length c1_3, .int .u32 a1_4, .int .u32 a1_5, .int .i64 a1_6, .int .u32 a1_7]) (t := 30) ?hr ?_; (case hd => rfl); (case hg => rfl); (case hr => first | (go_simp; done) | (go_simp; rfl)); intro gb2 hg w8 hbox hb; have n0_ := bkB BK1 hb; have n1_ := hbS HB hb; have n2_ := Aside0.mk (hbox); have n3_ := Aside0.mk ((by rw [hg]; exact (below_size (hbW HB)) : w.heap.size ≤ gb2)); have n4_ := Aside0.mk ((by rw [hg]; exact (below_size (hbW HB)) : w.heap.size ≤ gb2)); have n5_ := Aside0.mk ((by rw [hg]; exact Nat.ne_of_lt (blk_lt (bkW BK1)) : gb1 ≠ gb2)); have n6_ := Aside0.mk ((by rw [hg]; exact Nat.ne_of_gt (blk_lt (bkW BK1)) : gb2 ≠ gb1)); clear BK1; clear HB; have BK1 := n0_; have HB := n1_; have BK2 := n2_; have GW2 := n3_; have GE2 := n4_; have NB1_2 := n5_; have NB2_1 := n6_; clear n0_ n1_ n2_ n3_ n4_ n5_ n6_; clear hb hbox hg) | ((with_reducible refine gate_dst (N := 4) rfl ?_); refine box_event ?hg (N := 4) ?hd (cs := #[.int .u32 0, .int .i64 0, .slice none 0 0, .slice none 0 0, .int .u32 0, .int .u32 0, .int .i64 0, .int .u32 0]) (t := 30) ?hr ?_; (case hd => rfl); (case hg => rfl); (case hr => first | (go_simp; done) | (go_simp; rfl)); intro gb3 hg w9 hbox hb; have n0_ := bkB BK1 hb; have n1_ := bkB BK2 hb; have n2_ := hbS HB hb; have n3_ := Aside0.mk (hbox); have n4_ := Aside0.mk ((by rw [hg]; exact (below_size (hbW HB)) : w.heap.size ≤ gb3)); have n5_ := Aside0.mk ((by rw [hg]; exact (below_size (hbW HB)) : w.heap.size ≤ gb3)); have n6_ := Aside0.mk ((by rw [hg]; exact Nat.ne_of_lt (blk_lt (bkW BK1)) : gb1 ≠ gb3)); have n7_ := Aside0.mk ((by rw [hg]; exact Nat.ne_of_gt (blk_lt (bkW BK1)) : gb3 ≠ gb1)); have n8_ := Aside0.mk ((by rw [hg]; exact Nat.ne_of_lt (blk_lt (bkW BK2)) : gb2 ≠ gb3)); have n9_ := Aside0.mk ((by rw [hg]; exact Nat.ne_of_gt (blk_lt (bkW BK2)) : gb3 ≠ gb2)); clear BK1; clear BK2; clear HB; have BK1 := n0_; have BK2 := n1_; have HB := n2_; have BK3 := n3_; have GW3 := n4_; have GE3 := n5_; have NB1_3 := n6_; have NB3_1 := n7_; have NB2_3 := n8_; have NB3_2 := n9_; clear n0_ n1_ n2_ n3_ n4_ n5_ n6_ n7_ n8_ n9_; clear hb hbox hg; have hnb106 := NB2_1.out; have hnc106 := NB1_2.out; have hnb107 := NB2_3.out; have hnc107 := NB3_2.out; have hcz108_0 : w9.cell? ⟨gb2, 0, none⟩ = some (.int .u32 a1_0) := (blk_cell BK2.out 0).trans rfl; have hcz108_1 : w9.cell? ⟨gb2, 1, none⟩ = some (.int .i64 a1_1) := (blk_cell BK2.out 1).trans rfl; have hcz108_2 : w9.cell? ⟨gb2, 2, none⟩ = some (.slice A1_2 l1_2.length c1_2) := (blk_cell BK2.out 2).trans rfl; have hcz108_3 : w9.cell? ⟨gb2, 3, none⟩ = some (.slice A1_3 l1_3.length c1_3) := (blk_cell BK2.out 3).trans rfl; have hcz108_4 : w9.cell? ⟨gb2, 4, none⟩ = some (.int .u32 a1_4) := (blk_cell BK2.out 4).trans rfl; have hcz108_5 : w9.cell? ⟨gb2, 5, none⟩ = some (.int .u32 a1_5) := (blk_cell BK2.out 5).trans rfl; have hcz108_6 : w9.cell? ⟨gb2, 6, none⟩ = some (.int .i64 a1_6) := (blk_cell BK2.out 6).trans rfl; have hcz108_7 : w9.cell? ⟨gb2, 7, none⟩ = some (.int .u32 a1_7) := (blk_cell BK2.out 7).trans rfl; have hfz108_0 := blk_frozen BK2.out 0; have hfz108_1 := blk_frozen BK2.out 1; have hfz108_2 := blk_frozen BK2.out 2; have hfz108_3 := blk_frozen BK2.out 3; have hfz108_4 := blk_frozen BK2.out 4; have hfz108_5 := blk_frozen BK2.out 5; have hfz108_6 := blk_frozen BK2.out 6; have hfz108_7 := blk_frozen BK2.out 7) | ((with_reducible refine gate_callee (f := 12) rfl ?_); refine goesL_ (some 9) rfl rfl Try.func12 (by kernel_rfl) rfl #[.agg #[.int .u32 a1_0, .int .i64 a1_1, .slice A1_2 l1_2.length c1_2, .slice A1_3 l1_3.length c1_3, .int .u32 a1_4, .int .u32 a1_5, .int .i64 a1_6, .int .u32 a1_7]] rfl (by (try simp only [List.map_toArray, List.map_cons, List.map_nil]); first | done | rfl | (simp only [List.length_drop, List.length_take]; rfl)) ?_; (with_reducible refine (q2z.calls a1_0 a1_1 _ _ l1_2 _ _ l1_3 a1_4 a1_5 a1_6 a1_7 t4 t5 t6 t9 t12 t13 t14 t15 _ ?side1 ?side2 ?side3 ?side4 A3.out).mono ?_); (case side1 => repeat (first | exact (Kd.C_below HR1_2.out HB.out) | (with_reducible refine Kd.C_alloc ?_ _) | (with_reducible refine Kd.C_drewN ?_ _) | (with_reducible refine Kd.C_drew ?_))); (case side2 => exact HC1_2.out); (case side3 => repeat (first | exact (Kd.C_below HR1_3.out HB.out) | (with_reducible refine Kd.C_alloc ?_ _) | (with_reducible refine Kd.C_drewN ?_ _) | (with_reducible refine Kd.C_drew ?_))); (case side4 => exact HC1_3.out); rintro e w13 ⟨v7, v10, rfl, ho0, ho1, hb⟩; refine ⟨_, rfl, ?_⟩; have n0_ := Aside0.mk (Kd.R_lower ho0 (below_size (hbW HB))); have n1_ := Aside0.mk (Kd.R_lower ho1 (below_size (hbW HB))); have n2_ := bkB BK1 hb; have n3_ := bkB BK2 hb; have n4_ := bkB BK3 hb; have n5_ := hbS HB hb; clear BK1; clear BK2; clear BK3; clear HB; have HO8 := n0_; have HO11 := n1_; have BK1 := n2_; have BK2 := n3_; have BK3 := n4_; have HB := n5_; clear n0_ n1_ n2_ n3_ n4_ n5_; (try clear hb); (try clear hb2); (try clear hk); (try clear hi); (try clear ho0); (try clear ho1); have hcz14_0 : w13.cell? ⟨gb2, 0, none⟩ = some (.int .u32 a1_0) := (blk_cell BK2.out 0).trans rfl; have hcz14_1 : w13.cell? ⟨gb2, 1, none⟩ = some (.int .i64 a1_1) := (blk_cell BK2.out 1).trans rfl; have hcz14_2 : w13.cell? ⟨gb2, 2, none⟩ = some (.slice A1_2 l1_2.length c1_2) := (blk_cell BK2.out 2).trans rfl; have hcz14_3 : w13.cell? ⟨gb2, 3, none⟩ = some (.slice A1_3 l1_3.length c1_3) := (blk_cell BK2.out 3).trans rfl; have hcz14_4 : w13.cell? ⟨gb2, 4, none⟩ = some (.int .u32 a1_4) := (blk_cell BK2.out 4).trans rfl; have hcz14_5 : w13.cell? ⟨gb2, 5, none⟩ = some (.int .u32 a1_5) := (blk_cell BK2.out 5).trans rfl; have hcz14_6 : w13.cell? ⟨gb2, 6, none⟩ = some (.int .i64 a1_6) := (blk_cell BK2.out 6).trans rfl; have hcz14_7 : w13.cell? ⟨gb2, 7, none⟩ = some (.int .u32 a1_7) := (blk_cell BK2.out 7).trans rfl; have hfz14_0 := blk_frozen BK2.out 0; have hfz14_1 := blk_frozen BK2.out 1; have hfz14_2 := blk_frozen BK2.out 2; have hfz14_3 := blk_frozen BK2.out 3; have hfz14_4 := blk_frozen BK2.out 4; have hfz14_5 := blk_frozen BK2.out 5; have hfz14_6 := blk_frozen BK2.out 6; have hfz14_7 := blk_frozen BK2.out 7; obtain ⟨Ao15, co15, eo15⟩ := Kd.R_slice HO8.out; subst eo15; obtain ⟨Ao16, co16, eo16⟩ := Kd.R_slice HO11.out; subst eo16; have hnb113 := NB1_3.out; have hnc113 := NB3_1.out; have hcz114_0 : w13.cell? ⟨gb1, 0, none⟩ = some (.int .i64 a0_0) := (blk_cell BK1.out 0).trans rfl; have hcz114_1 : w13.cell? ⟨gb1, 1, none⟩ = some (.int .u32 a0_1) := (blk_cell BK1.out 1).trans rfl; have hcz114_2 : w13.cell? ⟨gb1, 2, none⟩ = some (.slice A0_2 l0_2.length c0_2) := (blk_cell BK1.out 2).trans rfl; have hcz114_3 : w13.cell? ⟨gb1, 3, none⟩ = some (.slice A0_3 l0_3.length c0_3) := (blk_cell BK1.out 3).trans rfl; have hfz114_0 := blk_frozen BK1.out 0; have hfz114_1 := blk_frozen BK1.out 1; have hfz114_2 := blk_frozen BK1.out 2; have hfz114_3 := blk_frozen BK1.out 3) | ((with_reducible refine gate_callee (f := 15) rfl ?_); refine goesL_ (some 11) rfl rfl Try.func15 (by kernel_rfl) rfl #[.agg #[.int .i64 a0_0, .int .u32 a0_1, .slice A0_2 l0_2.length c0_2, .slice A0_3 l0_3.length c0_3]] rfl (by (try simp only [List.map_toArray, List.map_cons, List.map_nil]); first | done | rfl | (simp only [List.length_drop, List.length_take]; rfl)) ?_; (with_reducible refine (q15z.calls k a0_0 a0_1 _ _ l0_2 _ _ l0_3 _ _ ?side1 ?side2 ?side3 ?side4 A4.out).mono ?_); (case side1 => exact Kd.C_below HR0_2.out (hbW HB)); (case side2 => exact HC0_2.out); (case side3 => exact Kd.C_below HR0_3.out (hbW HB)); (case side4 => exact HC0_3.out); rintro e w19 ⟨rfl, hb⟩; refine ⟨_, rfl, ?_⟩; have n0_ := Aside0.mk (Kd.R_below (rW HO8) hb); have n1_ := Aside0.mk (Kd.R_below (rW HO11) hb); have n2_ := Aside0.mk (blk_below (g := gb1) (o := .cells #[.int .i64 a0_0, .int .u32 a0_1, .slice A0_2 l0_2.length c0_2, .slice A0_3 l0_3.length c0_3] 26 (0, 0)) (by (with_reducible repeat (first | refine blk_drewN ?_ _ | refine blk_drew ?_ | refine blk_alloc ?_ _)); refine blk_far ?_ NB1_2.out _; (with_reducible repeat (first | refine blk_drewN ?_ _ | refine blk_drew ?_ | refine blk_alloc ?_ _)); refine blk_far ?_ NB1_2.out _; (with_reducible repeat (first | refine blk_drewN ?_ _ | refine blk_drew ?_ | refine blk_alloc ?_ _)); refine blk_far ?_ NB1_2.out _; (with_reducible repeat (first | refine blk_drewN ?_ _ | refine blk_drew ?_ | refine blk_alloc ?_ _)); refine blk_far ?_ NB1_2.out _; (with_reducible repeat (first | refine blk_drewN ?_ _ | refine blk_drew ?_ | refine blk_alloc ?_ _)); refine blk_far ?_ NB1_2.out _; (with_reducible repeat (first | refine blk_drewN ?_ _ | refine blk_drew ?_ | refine blk_alloc ?_ _)); refine blk_far ?_ NB1_2.out _; (with_reducible repeat (first | refine blk_drewN ?_ _ | refine blk_drew ?_ | refine blk_alloc ?_ _)); refine blk_far ?_ NB1_2.out _; (with_reducible repeat (first | refine blk_drewN ?_ _ | refine blk_drew ?_ | refine blk_alloc ?_ _)); refine blk_far ?_ NB1_2.out _; (with_reducible repeat (first | refine blk_drewN ?_ _ | refine blk_drew ?_ | refine blk_alloc ?_ _)); exact BK1.out) hb); have n3_ := Aside0.mk (blk_below (g := gb2) (o := .cells #[.int .u32 t4, .int .i64 t5, .slice Ao15 t6.length co15, .slice Ao16 t9.length co16, .int .u32 t12, .int .u32 t13, .int .i64 t14, .int .u32 t15] 30 (0, 0)) (bp8 BK2) hb); have n4_ := Aside0.mk (blk_below (g := gb3) (o := .cells #[.int .u32 0, .int .i64 0, .slice none 0 0, .slice none 0 0, .int .u32 0, .int .u32 0, .int .i64 0, .int .u32 0] 30 (0, 0)) (by (with_reducible repeat (first | refine blk_drewN ?_ _ | refine blk_drew ?_ | refine blk_alloc ?_ _)); refine blk_far ?_ NB3_2.out _; (with_reducible repeat (first | refine blk_drewN ?_ _ | refine blk_drew ?_ | refine blk_alloc ?_ _)); refine blk_far ?_ NB3_2.out _; (with_reducible repeat (first | refine blk_drewN ?_ _ | refine blk_drew ?_ | refine blk_alloc ?_ _)); refine blk_far ?_ NB3_2.out _; (with_reducible repeat (first | refine blk_drewN ?_ _ | refine blk_drew ?_ | refine blk_alloc ?_ _)); refine blk_far ?_ NB3_2.out _; (with_reducible repeat (first | refine blk_drewN ?_ _ | refine blk_drew ?_ | refine blk_alloc ?_ _)); refine blk_far ?_ NB3_2.out _; (with_reducible repeat (first | refine blk_drewN ?_ _ | refine blk_drew ?_ | refine blk_alloc ?_ _)); refine blk_far ?_ NB3_2.out _; (with_reducible repeat (first | refine blk_drewN ?_ _ | refine blk_drew ?_ | refine blk_alloc ?_ _)); refine blk_far ?_ NB3_2.out _; (with_reducible repeat (first | refine blk_drewN ?_ _ | refine blk_drew ?_ | refine blk_alloc ?_ _)); refine blk_far ?_ NB3_2.out _; (with_reducible repeat (first | refine blk_drewN ?_ _ | refine blk_drew ?_ | refine blk_alloc ?_ _)); exact BK3.out) hb); have n5_ := hbS HB hb; clear HO8; clear HO11; clear BK1; clear BK2; clear BK3; clear HB; have HO8 := n0_; have HO11 := n1_; have BK1 := n2_; have BK2 := n3_; have BK3 := n4_; have HB := n5_; clear n0_ n1_ n2_ n3_ n4_ n5_; (try clear hb); (try clear hb2); (try clear hk); (try clear hi); have hcz203_0 : w19.cell? ⟨gb1, 0, none⟩ = some (.int .i64 a0_0) := (blk_cell BK1.out 0).trans rfl; have hcz203_1 : w19.cell? ⟨gb1, 1, none⟩ = some (.int .u32 a0_1) := (blk_cell BK1.out 1).trans rfl; have hcz203_2 : w19.cell? ⟨gb1, 2, none⟩ = some (.slice A0_2 l0_2.length c0_2) := (blk_cell BK1.out 2).trans rfl; have hcz203_3 : w19.cell? ⟨gb1, 3, none⟩ = some (.slice A0_3 l0_3.length c0_3) := (blk_cell BK1.out 3).trans rfl; have hfz203_0 := blk_frozen BK1.out 0; have hfz203_1 := blk_frozen BK1.out 1; have hfz203_2 := blk_frozen BK1.out 2; have hfz203_3 := blk_frozen BK1.out 3; have hcz204_0 : w19.cell? ⟨gb2, 0, none⟩ = some (.int .u32 t4) := (blk_cell BK2.out 0).trans rfl; have hcz204_1 : w19.cell? ⟨gb2, 1, none⟩ = some (.int .i64 t5) := (blk_cell BK2.out 1).trans rfl; have hcz204_2 : w19.cell? ⟨gb2, 2, none⟩ = some (.slice Ao15 t6.length co15) := (blk_cell BK2.out 2).trans rfl; have hcz204_3 : w19.cell? ⟨gb2, 3, none⟩ = some (.slice Ao16 t9.length co16) := (blk_cell BK2.out 3).trans rfl; have hcz204_4 : w19.cell? ⟨gb2, 4, none⟩ = some (.int .u32 t12) := (blk_cell BK2.out 4).trans rfl; have hcz204_5 : w19.cell? ⟨gb2, 5, none⟩ = some (.int .u32 t13) := (blk_cell BK2.out 5).trans rfl; have hcz204_6 : w19.cell? ⟨gb2, 6, none⟩ = some (.int .i64 t14) := (blk_cell BK2.out 6).trans rfl; have hcz204_7 : w19.cell? ⟨gb2, 7, none⟩ = some (.int .u32 t15) := (blk_cell BK2.out 7).trans rfl; have hfz204_0 := blk_frozen BK2.out 0; have hfz204_1 := blk_frozen BK2.out 1; have hfz204_2 := blk_frozen BK2.out 2; have hfz204_3 := blk_frozen BK2.out 3; have hfz204_4 := blk_frozen BK2.out 4; have hfz204_5 := blk_frozen BK2.out 5; have hfz204_6 := blk_frozen BK2.out 6; have hfz204_7 := blk_frozen BK2.out 7; have hcz205_0 : w19.cell? ⟨gb3, 0, none⟩ = some (.int .u32 0) := (blk_cell BK3.out 0).trans rfl; have hcz205_1 : w19.cell? ⟨gb3, 1, none⟩ = some (.int .i64 0) := (blk_cell BK3.out 1).trans rfl; have hcz205_2 : w19.cell? ⟨gb3, 2, none⟩ = some (.slice none 0 0) := (blk_cell BK3.out 2).trans rfl; have hcz205_3 : w19.cell? ⟨gb3, 3, none⟩ = some (.slice none 0 0) := (blk_cell BK3.out 3).trans rfl; have hcz205_4 : w19.cell? ⟨gb3, 4, none⟩ = some (.int .u32 0) := (blk_cell BK3.out 4).trans rfl; have hcz205_5 : w19.cell? ⟨gb3, 5, none⟩ = some (.int .u32 0) := (blk_cell BK3.out 5).trans rfl; have hcz205_6 : w19.cell? ⟨gb3, 6, none⟩ = some (.int .i64 0) := (blk_cell BK3.out 6).trans rfl; have hcz205_7 : w19.cell? ⟨gb3, 7, none⟩ = some (.int .u32 0) := (blk_cell BK3.out 7).trans rfl; have hfz205_0 := blk_frozen BK3.out 0; have hfz205_1 := blk_frozen BK3.out 1; have hfz205_2 := blk_frozen BK3.out 2; have hfz205_3 := blk_frozen BK3.out 3; have hfz205_4 := blk_frozen BK3.out 4; have hfz205_5 := blk_frozen BK3.out 5; have hfz205_6 := blk_frozen BK3.out 6; have hfz205_7 := blk_frozen BK3.out 7))
  have H := HH_c6.out
  clear HH_c6
  by_cases c6 : a0_0 = 1
  ·
   rw [if_pos c6] at H
   have c6b0 : (a0_0 == 1) = true := beq_iff_eq.mpr c6
   have c6b1 : (a0_0 != 1) = false := bne_eq_false_iff_eq.mpr c6
   clear c6
   simp only [Option.some.injEq, Prod.mk.injEq] at H
   obtain ⟨rfl, rfl, rfl, rfl, rfl, rfl, rfl, rfl⟩ := H
   go_wp2
   refine bodyPost_ret (results_cell_row rfl _ _ gb3 30 #[.int .u32 t4, .int .i64 t5, .slice Ao15 t6.length co15, .slice Ao16 t9.length co16, .int .u32 a0_1, .int .u32 t13, .int .i64 t14, .int .u32 t15] (0, 0) _ rfl (bp8 BK3) Try.underlying30 rfl (by kernel_rfl)) rfl ?_
   exact ⟨_, _, by first | rfl | (simp [errW_none, errW_some] <;> rfl) | (simp [*, errW_none, errW_some] <;> rfl), by (with_reducible repeat (first | apply Kd.R_alloc | apply Kd.R_drewN | apply Kd.R_drew)); exact Kd.R_mono (Kd.R_far (p := ⟨gb3, 7, none⟩) (Kd.R_far (p := ⟨gb3, 6, none⟩) (Kd.R_far (p := ⟨gb3, 5, none⟩) (Kd.R_far (p := ⟨gb3, 4, none⟩) (Kd.R_far (p := ⟨gb3, 3, none⟩) (Kd.R_far (p := ⟨gb3, 2, none⟩) (Kd.R_far (p := ⟨gb3, 1, none⟩) (Kd.R_far (p := ⟨gb3, 0, none⟩) (Kd.R_far (p := ⟨gb2, 4, none⟩) (Kd.R_types (Kd.R_types HO8.out BK2.out (by decide)) BK3.out (by decide)) (fun _ hk => hk.1.2) (.int .u32 a0_1)) (fun _ hk => hk.2) (.int .u32 t4)) (fun _ hk => hk.2) (.int .i64 t5)) (fun _ hk => hk.2) (.slice Ao15 t6.length co15)) (fun _ hk => hk.2) (.slice Ao16 t9.length co16)) (fun _ hk => hk.2) (.int .u32 a0_1)) (fun _ hk => hk.2) (.int .u32 t13)) (fun _ hk => hk.2) (.int .i64 t14)) (fun _ hk => hk.2) (.int .u32 t15)) (fun _ hk => hk.1.1), by (with_reducible repeat (first | apply Kd.R_alloc | apply Kd.R_drewN | apply Kd.R_drew)); exact Kd.R_mono (Kd.R_far (p := ⟨gb3, 7, none⟩) (Kd.R_far (p := ⟨gb3, 6, none⟩) (Kd.R_far (p := ⟨gb3, 5, none⟩) (Kd.R_far (p := ⟨gb3, 4, none⟩) (Kd.R_far (p := ⟨gb3, 3, none⟩) (Kd.R_far (p := ⟨gb3, 2, none⟩) (Kd.R_far (p := ⟨gb3, 1, none⟩) (Kd.R_far (p := ⟨gb3, 0, none⟩) (Kd.R_far (p := ⟨gb2, 4, none⟩) (Kd.R_types (Kd.R_types HO11.out BK2.out (by decide)) BK3.out (by decide)) (fun _ hk => hk.1.2) (.int .u32 a0_1)) (fun _ hk => hk.2) (.int .u32 t4)) (fun _ hk => hk.2) (.int .i64 t5)) (fun _ hk => hk.2) (.slice Ao15 t6.length co15)) (fun _ hk => hk.2) (.slice Ao16 t9.length co16)) (fun _ hk => hk.2) (.int .u32 a0_1)) (fun _ hk => hk.2) (.int .u32 t13)) (fun _ hk => hk.2) (.int .i64 t14)) (fun _ hk => hk.2) (.int .u32 t15)) (fun _ hk => hk.1.1), hbW HB⟩
  ·
   rw [if_neg c6] at H
   have c6b0 : (a0_0 == 1) = false := beq_eq_false_iff_ne.mpr c6
   have c6b1 : (a0_0 != 1) = true := bne_iff_ne.mpr c6
   by_cases c23 : a0_0 = 2
   ·
    rw [if_pos c23] at H
    have c23b0 : (a0_0 == 2) = true := beq_iff_eq.mpr c23
    have c23b1 : (a0_0 != 2) = false := bne_eq_false_iff_eq.mpr c23
    clear c23
    simp only [Option.some.injEq, Prod.mk.injEq] at H
    obtain ⟨rfl, rfl, rfl, rfl, rfl, rfl, rfl, rfl⟩ := H
    go_wp2
    refine bodyPost_ret (results_cell_row rfl _ _ gb3 30 #[.int .u32 t4, .int .i64 t5, .slice Ao15 t6.length co15, .slice Ao16 t9.length co16, .int .u32 t12, .int .u32 a0_1, .int .i64 t14, .int .u32 t15] (0, 0) _ rfl (bp8 BK3) Try.underlying30 rfl (by kernel_rfl)) rfl ?_
    exact ⟨_, _, by first | rfl | (simp [errW_none, errW_some] <;> rfl) | (simp [*, errW_none, errW_some] <;> rfl), by (with_reducible repeat (first | apply Kd.R_alloc | apply Kd.R_drewN | apply Kd.R_drew)); exact Kd.R_mono (Kd.R_far (p := ⟨gb3, 7, none⟩) (Kd.R_far (p := ⟨gb3, 6, none⟩) (Kd.R_far (p := ⟨gb3, 5, none⟩) (Kd.R_far (p := ⟨gb3, 4, none⟩) (Kd.R_far (p := ⟨gb3, 3, none⟩) (Kd.R_far (p := ⟨gb3, 2, none⟩) (Kd.R_far (p := ⟨gb3, 1, none⟩) (Kd.R_far (p := ⟨gb3, 0, none⟩) (Kd.R_far (p := ⟨gb2, 5, none⟩) (Kd.R_types (Kd.R_types HO8.out BK2.out (by decide)) BK3.out (by decide)) (fun _ hk => hk.1.2) (.int .u32 a0_1)) (fun _ hk => hk.2) (.int .u32 t4)) (fun _ hk => hk.2) (.int .i64 t5)) (fun _ hk => hk.2) (.slice Ao15 t6.length co15)) (fun _ hk => hk.2) (.slice Ao16 t9.length co16)) (fun _ hk => hk.2) (.int .u32 t12)) (fun _ hk => hk.2) (.int .u32 a0_1)) (fun _ hk => hk.2) (.int .i64 t14)) (fun _ hk => hk.2) (.int .u32 t15)) (fun _ hk => hk.1.1), by (with_reducible repeat (first | apply Kd.R_alloc | apply Kd.R_drewN | apply Kd.R_drew)); exact Kd.R_mono (Kd.R_far (p := ⟨gb3, 7, none⟩) (Kd.R_far (p := ⟨gb3, 6, none⟩) (Kd.R_far (p := ⟨gb3, 5, none⟩) (Kd.R_far (p := ⟨gb3, 4, none⟩) (Kd.R_far (p := ⟨gb3, 3, none⟩) (Kd.R_far (p := ⟨gb3, 2, none⟩) (Kd.R_far (p := ⟨gb3, 1, none⟩) (Kd.R_far (p := ⟨gb3, 0, none⟩) (Kd.R_far (p := ⟨gb2, 5, none⟩) (Kd.R_types (Kd.R_types HO11.out BK2.out (by decide)) BK3.out (by decide)) (fun _ hk => hk.1.2) (.int .u32 a0_1)) (fun _ hk => hk.2) (.int .u32 t4)) (fun _ hk => hk.2) (.int .i64 t5)) (fun _ hk => hk.2) (.slice Ao15 t6.length co15)) (fun _ hk => hk.2) (.slice Ao16 t9.length co16)) (fun _ hk => hk.2) (.int .u32 t12)) (fun _ hk => hk.2) (.int .u32 a0_1)) (fun _ hk => hk.2) (.int .i64 t14)) (fun _ hk => hk.2) (.int .u32 t15)) (fun _ hk => hk.1.1), hbW HB⟩
   ·
    rw [if_neg c23] at H
    have c23b0 : (a0_0 == 2) = false := beq_eq_false_iff_ne.mpr c23
    have c23b1 : (a0_0 != 2) = true := bne_iff_ne.mpr c23
    by_cases c40 : a0_0 = 3
    ·
     rw [if_pos c40] at H
     have c40b0 : (a0_0 == 3) = true := beq_iff_eq.mpr c40
     have c40b1 : (a0_0 != 3) = false := bne_eq_false_iff_eq.mpr c40
     clear c40
     simp only [Option.some.injEq, Prod.mk.injEq] at H
     obtain ⟨rfl, rfl, rfl, rfl, rfl, rfl, rfl, rfl⟩ := H
     go_wp2
     refine bodyPost_ret (results_cell_row rfl _ _ gb3 30 #[.int .u32 t4, .int .i64 t5, .slice Ao15 t6.length co15, .slice Ao16 t9.length co16, .int .u32 t12, .int .u32 t13, .int .i64 (wrap64 (a0_1)), .int .u32 t15] (0, 0) _ rfl (bp8 BK3) Try.underlying30 rfl (by kernel_rfl)) rfl ?_
     exact ⟨_, _, by first | rfl | (simp [errW_none, errW_some] <;> rfl) | (simp [*, errW_none, errW_some] <;> rfl), by (with_reducible repeat (first | apply Kd.R_alloc | apply Kd.R_drewN | apply Kd.R_drew)); exact Kd.R_mono (Kd.R_far (p := ⟨gb3, 7, none⟩) (Kd.R_far (p := ⟨gb3, 6, none⟩) (Kd.R_far (p := ⟨gb3, 5, none⟩) (Kd.R_far (p := ⟨gb3, 4, none⟩) (Kd.R_far (p := ⟨gb3, 3, none⟩) (Kd.R_far (p := ⟨gb3, 2, none⟩) (Kd.R_far (p := ⟨gb3, 1, none⟩) (Kd.R_far (p := ⟨gb3, 0, none⟩) (Kd.R_far (p := ⟨gb2, 6, none⟩) (Kd.R_types (Kd.R_types HO8.out BK2.out (by decide)) BK3.out (by decide)) (fun _ hk => hk.1.2) (.int .i64 (wrap64 (a0_1)))) (fun _ hk => hk.2) (.int .u32 t4)) (fun _ hk => hk.2) (.int .i64 t5)) (fun _ hk => hk.2) (.slice Ao15 t6.length co15)) (fun _ hk => hk.2) (.slice Ao16 t9.length co16)) (fun _ hk => hk.2) (.int .u32 t12)) (fun _ hk => hk.2) (.int .u32 t13)) (fun _ hk => hk.2) (.int .i64 (wrap64 (a0_1)))) (fun _ hk => hk.2) (.int .u32 t15)) (fun _ hk => hk.1.1), by (with_reducible repeat (first | apply Kd.R_alloc | apply Kd.R_drewN | apply Kd.R_drew)); exact Kd.R_mono (Kd.R_far (p := ⟨gb3, 7, none⟩) (Kd.R_far (p := ⟨gb3, 6, none⟩) (Kd.R_far (p := ⟨gb3, 5, none⟩) (Kd.R_far (p := ⟨gb3, 4, none⟩) (Kd.R_far (p := ⟨gb3, 3, none⟩) (Kd.R_far (p := ⟨gb3, 2, none⟩) (Kd.R_far (p := ⟨gb3, 1, none⟩) (Kd.R_far (p := ⟨gb3, 0, none⟩) (Kd.R_far (p := ⟨gb2, 6, none⟩) (Kd.R_types (Kd.R_types HO11.out BK2.out (by decide)) BK3.out (by decide)) (fun _ hk => hk.1.2) (.int .i64 (wrap64 (a0_1)))) (fun _ hk => hk.2) (.int .u32 t4)) (fun _ hk => hk.2) (.int .i64 t5)) (fun _ hk => hk.2) (.slice Ao15 t6.length co15)) (fun _ hk => hk.2) (.slice Ao16 t9.length co16)) (fun _ hk => hk.2) (.int .u32 t12)) (fun _ hk => hk.2) (.int .u32 t13)) (fun _ hk => hk.2) (.int .i64 (wrap64 (a0_1)))) (fun _ hk => hk.2) (.int .u32 t15)) (fun _ hk => hk.1.1), hbW HB⟩
    ·
     rw [if_neg c40] at H
     have c40b0 : (a0_0 == 3) = false := beq_eq_false_iff_ne.mpr c40
     have c40b1 : (a0_0 != 3) = true := bne_iff_ne.mpr c40
     by_cases c57 : a0_0 = 4
     ·
      rw [if_pos c57] at H
      have c57b0 : (a0_0 == 4) = true := beq_iff_eq.mpr c57
      have c57b1 : (a0_0 != 4) = false := bne_eq_false_iff_eq.mpr c57
      clear c57
      simp only [Option.some.injEq, Prod.mk.injEq] at H
      obtain ⟨rfl, rfl, rfl, rfl, rfl, rfl, rfl, rfl⟩ := H
      go_wp2
      refine bodyPost_ret (results_cell_row rfl _ _ gb3 30 #[.int .u32 t4, .int .i64 t5, .slice Ao15 t6.length co15, .slice Ao16 t9.length co16, .int .u32 t12, .int .u32 t13, .int .i64 t14, .int .u32 a0_1] (0, 0) _ rfl (bp8 BK3) Try.underlying30 rfl (by kernel_rfl)) rfl ?_
      exact ⟨_, _, by first | rfl | (simp [errW_none, errW_some] <;> rfl) | (simp [*, errW_none, errW_some] <;> rfl), by (with_reducible repeat (first | apply Kd.R_alloc | apply Kd.R_drewN | apply Kd.R_drew)); exact Kd.R_mono (Kd.R_far (p := ⟨gb3, 7, none⟩) (Kd.R_far (p := ⟨gb3, 6, none⟩) (Kd.R_far (p := ⟨gb3, 5, none⟩) (Kd.R_far (p := ⟨gb3, 4, none⟩) (Kd.R_far (p := ⟨gb3, 3, none⟩) (Kd.R_far (p := ⟨gb3, 2, none⟩) (Kd.R_far (p := ⟨gb3, 1, none⟩) (Kd.R_far (p := ⟨gb3, 0, none⟩) (Kd.R_far (p := ⟨gb2, 7, none⟩) (Kd.R_types (Kd.R_types HO8.out BK2.out (by decide)) BK3.out (by decide)) (fun _ hk => hk.1.2) (.int .u32 a0_1)) (fun _ hk => hk.2) (.int .u32 t4)) (fun _ hk => hk.2) (.int .i64 t5)) (fun _ hk => hk.2) (.slice Ao15 t6.length co15)) (fun _ hk => hk.2) (.slice Ao16 t9.length co16)) (fun _ hk => hk.2) (.int .u32 t12)) (fun _ hk => hk.2) (.int .u32 t13)) (fun _ hk => hk.2) (.int .i64 t14)) (fun _ hk => hk.2) (.int .u32 a0_1)) (fun _ hk => hk.1.1), by (with_reducible repeat (first | apply Kd.R_alloc | apply Kd.R_drewN | apply Kd.R_drew)); exact Kd.R_mono (Kd.R_far (p := ⟨gb3, 7, none⟩) (Kd.R_far (p := ⟨gb3, 6, none⟩) (Kd.R_far (p := ⟨gb3, 5, none⟩) (Kd.R_far (p := ⟨gb3, 4, none⟩) (Kd.R_far (p := ⟨gb3, 3, none⟩) (Kd.R_far (p := ⟨gb3, 2, none⟩) (Kd.R_far (p := ⟨gb3, 1, none⟩) (Kd.R_far (p := ⟨gb3, 0, none⟩) (Kd.R_far (p := ⟨gb2, 7, none⟩) (Kd.R_types (Kd.R_types HO11.out BK2.out (by decide)) BK3.out (by decide)) (fun _ hk => hk.1.2) (.int .u32 a0_1)) (fun _ hk => hk.2) (.int .u32 t4)) (fun _ hk => hk.2) (.int .i64 t5)) (fun _ hk => hk.2) (.slice Ao15 t6.length co15)) (fun _ hk => hk.2) (.slice Ao16 t9.length co16)) (fun _ hk => hk.2) (.int .u32 t12)) (fun _ hk => hk.2) (.int .u32 t13)) (fun _ hk => hk.2) (.int .i64 t14)) (fun _ hk => hk.2) (.int .u32 a0_1)) (fun _ hk => hk.1.1), hbW HB⟩
     ·
      rw [if_neg c57] at H
      have c57b0 : (a0_0 == 4) = false := beq_eq_false_iff_ne.mpr c57
      have c57b1 : (a0_0 != 4) = true := bne_iff_ne.mpr c57
      by_cases c74 : a0_0 = 5
      ·
       rw [if_pos c74] at H
       have c74b0 : (a0_0 == 5) = true := beq_iff_eq.mpr c74
       have c74b1 : (a0_0 != 5) = false := bne_eq_false_iff_eq.mpr c74
       clear c74
       obtain ⟨y17, hy17⟩ : ∃ y_ : List Int, y_ = (([] : List Int)) := ⟨_, rfl⟩
       replace H : (if y17.length + l0_2.length < 35184372088832 then ((some (y17 ++ l0_2 : List Int)).bind fun y20 => (if y20.length + t6.length < 35184372088832 then (some (t4, t5, (y20 ++ t6), t9, t12, t13, t14, t15)) else (none))) else (none)) = some (r1, r2, r3, r4, r5, r6, r7, r8) := by first | (rw [hy17]; with_reducible exact H) | (have H2_ := (Option.bind_some _ _).symm.trans H; rw [hy17]; with_reducible exact H2_) | (have H2_ := (Option.bind_some _ _).symm.trans H; with_reducible exact H2_) | with_reducible exact H | (rw [hy17]; exact H) | exact H
       have Ny17 := Aside0.mk hy17
       clear hy17
       by_cases c75 : y17.length + l0_2.length < 35184372088832
       ·
        rw [if_pos c75] at H
        have LMc75 := Aside0.mk c75
        clear c75
        obtain ⟨y20, hy20⟩ : ∃ y_ : List Int, y_ = (y17 ++ l0_2) := ⟨_, rfl⟩
        replace H : (if y20.length + t6.length < 35184372088832 then (some (t4, t5, (y20 ++ t6), t9, t12, t13, t14, t15)) else (none)) = some (r1, r2, r3, r4, r5, r6, r7, r8) := by first | (rw [hy20]; with_reducible exact H) | (have H2_ := (Option.bind_some _ _).symm.trans H; rw [hy20]; with_reducible exact H2_) | (have H2_ := (Option.bind_some _ _).symm.trans H; with_reducible exact H2_) | with_reducible exact H | (rw [hy20]; exact H) | exact H
        have Ny20 := Aside0.mk hy20
        clear hy20
        by_cases c76 : y20.length + t6.length < 35184372088832
        ·
         rw [if_pos c76] at H
         have LMc76 := Aside0.mk c76
         clear c76
         obtain ⟨y23, hy23⟩ : ∃ y_ : List Int, y_ = (y20 ++ t6) := ⟨_, rfl⟩
         replace H : (some (t4, t5, y23, t9, t12, t13, t14, t15)) = some (r1, r2, r3, r4, r5, r6, r7, r8) := by first | (rw [hy23]; with_reducible exact H) | (have H2_ := (Option.bind_some _ _).symm.trans H; rw [hy23]; with_reducible exact H2_) | (have H2_ := (Option.bind_some _ _).symm.trans H; with_reducible exact H2_) | with_reducible exact H | (rw [hy23]; exact H) | exact H
         have Ny23 := Aside0.mk hy23
         clear hy23
         simp only [Option.some.injEq, Prod.mk.injEq] at H
         obtain ⟨rfl, rfl, rfl, rfl, rfl, rfl, rfl, rfl⟩ := H
         try go_wp2
         have n0_ := Aside0.mk (Kd.R_drew HO8.out)
         have n1_ := Aside0.mk (Kd.R_drew HO11.out)
         have n2_ := Aside0.mk (blk_drew BK1.out)
         have n3_ := Aside0.mk (blk_drew BK2.out)
         have n4_ := Aside0.mk (blk_drew BK3.out)
         have n5_ := Aside0.mk (below_drew1 HB.out)
         clear HO8
         clear HO11
         clear BK1
         clear BK2
         clear BK3
         clear HB
         have HO8 := n0_
         have HO11 := n1_
         have BK1 := n2_
         have BK2 := n3_
         have BK3 := n4_
         have HB := n5_
         clear n0_ n1_ n2_ n3_ n4_ n5_
         refine start_ (n := 9) (S := fun w' => w'.cell? ⟨gb1, 0, none⟩ = some (.int .i64 a0_0) ∧ w'.cell? ⟨gb1, 1, none⟩ = some (.int .u32 a0_1) ∧ w'.cell? ⟨gb1, 2, none⟩ = some (.slice A0_2 l0_2.length c0_2) ∧ w'.cell? ⟨gb1, 3, none⟩ = some (.slice A0_3 l0_3.length c0_3) ∧ w'.cell? ⟨gb2, 0, none⟩ = some (.int .u32 t4) ∧ w'.cell? ⟨gb2, 1, none⟩ = some (.int .i64 t5) ∧ w'.cell? ⟨gb2, 2, none⟩ = some (.slice Ao15 t6.length co15) ∧ w'.cell? ⟨gb2, 3, none⟩ = some (.slice Ao16 t9.length co16) ∧ w'.cell? ⟨gb2, 4, none⟩ = some (.int .u32 t12) ∧ w'.cell? ⟨gb2, 5, none⟩ = some (.int .u32 t13) ∧ w'.cell? ⟨gb2, 6, none⟩ = some (.int .i64 t14) ∧ w'.cell? ⟨gb2, 7, none⟩ = some (.int .u32 t15)) (ds := [8]) #[false, false, false, false, false, false, false, false, false] (by kernel_rfl) rfl rfl ⟨(blk_cell BK1.out 0).trans rfl, (blk_cell BK1.out 1).trans rfl, (blk_cell BK1.out 2).trans rfl, (blk_cell BK1.out 3).trans rfl, (blk_cell BK2.out 0).trans rfl, (blk_cell BK2.out 1).trans rfl, (blk_cell BK2.out 2).trans rfl, (blk_cell BK2.out 3).trans rfl, (blk_cell BK2.out 4).trans rfl, (blk_cell BK2.out 5).trans rfl, (blk_cell BK2.out 6).trans rfl, (blk_cell BK2.out 7).trans rfl⟩ (fun hHeld => ?_); refine with_tabW q20z.tab14 q20z.bits14 (fun HT_ HW_ => ?_)
         generalize w19.drew = w91 at HO8 HO11 BK1 BK2 BK3 HB hHeld ⊢
         refine pure_ (i := 1) (N := some 40) (v := ?_) (a' := ?_) #[false, true, false, false, false, false, false, false, false] rfl rfl (any_of HT_.out (by kernel_rfl)) (fun _ _ _ h => h) (Or.inl ⟨by rfl, ?_⟩) ?_ ?_
         rotate_left
         ·
          intro w'
          go_simp
          with_reducible rfl
         rotate_left
         ·
          simp only [Act.put, List.setIfInBounds_toArray, List.set_cons_zero, List.set_cons_succ, i64_w, i32_w, IntKind.wrap_u32]
          rfl
         refine pure_ (i := 4) (N := some 43) (v := ?_) (a' := ?_) #[false, true, false, false, true, false, false, false, false] rfl rfl (any_of HT_.out (by kernel_rfl)) (fun _ _ _ h => h) (Or.inl ⟨by rfl, ?_⟩) ?_ ?_
         rotate_left
         ·
          intro w'
          go_simp
          with_reducible rfl
         rotate_left
         ·
          simp only [Act.put, List.setIfInBounds_toArray, List.set_cons_zero, List.set_cons_succ, i64_w, i32_w, IntKind.wrap_u32]
          rfl
         refine take_ (i := 2) (N := some 41) (v := ?_) (a' := ?_) #[false, true, true, false, true, false, false, false, false] rfl rfl (take_ofW HT_.out HW_.out (by kernel_rfl)) (fun _ _ _ h => h) (Or.inl ⟨by rfl, ?_⟩) hHeld ?_ ?_
         rotate_left
         ·
          rintro w' ⟨s0, s1, s2, s3, s4, s5, s6, s7, s8, s9, s10, s11⟩
          go_simp
          with_reducible rfl
         rotate_left
         ·
          simp only [Act.put, List.setIfInBounds_toArray, List.set_cons_zero, List.set_cons_succ, i64_w, i32_w, IntKind.wrap_u32]
          rfl
         refine take_ (i := 5) (N := some 44) (v := ?_) (a' := ?_) #[false, true, true, false, true, true, false, false, false] rfl rfl (take_ofW HT_.out HW_.out (by kernel_rfl)) (fun _ _ _ h => h) (Or.inl ⟨by rfl, ?_⟩) hHeld ?_ ?_
         rotate_left
         ·
          rintro w' ⟨s0, s1, s2, s3, s4, s5, s6, s7, s8, s9, s10, s11⟩
          go_simp
          with_reducible rfl
         rotate_left
         ·
          simp only [Act.put, List.setIfInBounds_toArray, List.set_cons_zero, List.set_cons_succ, i64_w, i32_w, IntKind.wrap_u32]
          rfl
         refine one_ (i := 0) (N := some 39) #[true, true, true, false, true, true, false, false, false] rfl rfl (one_of HT_.out (by kernel_rfl)) (by decide) (fun K hK => ?_)
         refine Kd.R_lit_step (Kd.int .u32) _ 22 ?hg (N := 39) ?hd (xs := ([] : List Int)) (inner := []) (ok := fun _ => True) (okp := fun _ => True) ?hr ?hp (fun _ hk => hk) trivial (Below.refl _ _) (Nat.le_refl _) (by simp) ?_; (case hd => rfl); (case hg => rfl); (case hr => first | (go_simp; done) | (go_simp; rfl)); (case hp => exact (Reps.none _ _))
         intro v18 w92 ho93 hb hg_ hnew_
         clear hg_ hnew_
         (first | rw [← Ny17.out] at ho93 | (simp only [Int.reduceToNat] at ho93; rw [← Ny17.out] at ho93))
         have n0_ := Aside0.mk (Kd.R_elder' (rW HO8) (Kd.R_base ho93) hb)
         have n1_ := Aside0.mk (Kd.R_elder' (rW HO11) (Kd.R_base ho93) hb)
         have n2_ := Aside0.mk (Kd.R_lower (Kd.R_new' (Kd.R_new' ho93 (Kd.R_lt (rW HO8))) (Kd.R_lt (rW HO11))) (below_size (hbW HB)))
         have n3_ := bkB BK1 hb
         have n4_ := bkB BK2 hb
         have n5_ := bkB BK3 hb
         have n6_ := hbS HB hb
         clear HO8
         clear HO11
         clear BK1
         clear BK2
         clear BK3
         clear HB
         have HO8 := n0_
         have HO11 := n1_
         have HO19 := n2_
         have BK1 := n3_
         have BK2 := n4_
         have BK3 := n5_
         have HB := n6_
         clear n0_ n1_ n2_ n3_ n4_ n5_ n6_
         clear hb ho93
         refine hK.out _ _ ⟨(blk_cell BK1.out 0).trans rfl, (blk_cell BK1.out 1).trans rfl, (blk_cell BK1.out 2).trans rfl, (blk_cell BK1.out 3).trans rfl, (blk_cell BK2.out 0).trans rfl, (blk_cell BK2.out 1).trans rfl, (blk_cell BK2.out 2).trans rfl, (blk_cell BK2.out 3).trans rfl, (blk_cell BK2.out 4).trans rfl, (blk_cell BK2.out 5).trans rfl, (blk_cell BK2.out 6).trans rfl, (blk_cell BK2.out 7).trans rfl⟩ (fun hHeld => ?_)
         clear hK K
         refine norm_ (a' := ?_) ?_ ?_
         rotate_left
         ·
          show Act.put _ (some 39) _ = _
          simp only [Act.put, List.setIfInBounds_toArray, List.set_cons_zero, List.set_cons_succ, i64_w, i32_w, IntKind.wrap_u32]
          rfl
         refine one_ (i := 3) (N := some 42) #[true, true, true, true, true, true, false, false, false] rfl rfl (one_of HT_.out (by kernel_rfl)) (by decide) (fun K hK => ?_)
         refine Kd.R_append_rows_step (Kd.int .u32) (w0 := w) w.heap.size (by rfl) (.tmp 39) (.tmp 41) 23 22 (.int .u32 0) 4 rfl Try.underlying23 info22 rfl (by decide) (by omega) v18 y17 l0_2 _ _ _ (fun k_ => some k_ ≠ (.slice Ao15 t6.length co15 : Value).ownBlock ∧ some k_ ≠ (.slice Ao16 t9.length co16 : Value).ownBlock) (fun _ => False) rfl rfl ?aO ?aR (fun _ _ h => h) (fun _ h => h.elim) ?aF ?aB ?aS ?aL ?_
         (case aR => repeat (first | exact (Kd.C_below HR0_2.out HB.out) | (with_reducible refine Kd.C_alloc ?_ _) | (with_reducible refine Kd.C_drewN ?_ _) | (with_reducible refine Kd.C_drew ?_)))
         (case aB => exact (hbW HB))
         (case aF => exact (fun k_ hk => ⟨Kd.fresh' (Kd.R_lt (rW HO8)) k_ hk, Kd.fresh' (Kd.R_lt (rW HO11)) k_ hk⟩))
         (case aO => exact (by (with_reducible repeat (first | apply Kd.R_alloc | apply Kd.R_drewN | apply Kd.R_drew)); exact Kd.R_mono HO19.out (fun _ hk => ⟨hk.1.2, hk.2⟩)))
         (case aS => exact (below_size (hbW HB)))
         (case aL => have := LMc75.out; omega)
         intro v21 w94 ho hb hg hat
         rw [← Ny20.out] at ho
         have n0_ := Aside0.mk (blk_grown (g := gb1) (o := .cells #[.int .i64 a0_0, .int .u32 a0_1, .slice A0_2 l0_2.length c0_2, .slice A0_3 l0_3.length c0_3] 26 (0, 0)) (bkW BK1) hg (Kd.R_ne HO19.out BK1.out (by decide)))
         have n1_ := Aside0.mk (blk_grown (g := gb2) (o := .cells #[.int .u32 t4, .int .i64 t5, .slice Ao15 t6.length co15, .slice Ao16 t9.length co16, .int .u32 t12, .int .u32 t13, .int .i64 t14, .int .u32 t15] 30 (0, 0)) (bkW BK2) hg (Kd.R_ne HO19.out BK2.out (by decide)))
         have n2_ := Aside0.mk (blk_grown (g := gb3) (o := .cells #[.int .u32 0, .int .i64 0, .slice none 0 0, .slice none 0 0, .int .u32 0, .int .u32 0, .int .i64 0, .int .u32 0] 30 (0, 0)) (bkW BK3) hg (Kd.R_ne HO19.out BK3.out (by decide)))
         have n3_ := Aside0.mk (Kd.R_after (ok := (fun k_ => some k_ ≠ (.slice Ao16 t9.length co16 : Value).ownBlock)) (rW HO8) hg hat)
         have n4_ := Aside0.mk (Kd.R_after (ok := (fun k_ => some k_ ≠ (.slice Ao15 t6.length co15 : Value).ownBlock)) (rW HO11) hg hat)
         have n5_ := Aside0.mk (hb)
         have n6_ := Aside0.mk (ho)
         clear BK1
         clear BK2
         clear BK3
         clear HO8
         clear HO11
         clear HB
         clear HO19
         have BK1 := n0_
         have BK2 := n1_
         have BK3 := n2_
         have HO8 := n3_
         have HO11 := n4_
         have HB := n5_
         have HO22 := n6_
         clear n0_ n1_ n2_ n3_ n4_ n5_ n6_
         clear ho hb hg hat
         refine hK.out _ _ ⟨(blk_cell BK1.out 0).trans rfl, (blk_cell BK1.out 1).trans rfl, (blk_cell BK1.out 2).trans rfl, (blk_cell BK1.out 3).trans rfl, (blk_cell BK2.out 0).trans rfl, (blk_cell BK2.out 1).trans rfl, (blk_cell BK2.out 2).trans rfl, (blk_cell BK2.out 3).trans rfl, (blk_cell BK2.out 4).trans rfl, (blk_cell BK2.out 5).trans rfl, (blk_cell BK2.out 6).trans rfl, (blk_cell BK2.out 7).trans rfl⟩ (fun hHeld => ?_)
         clear hK K
         refine norm_ (a' := ?_) ?_ ?_
         rotate_left
         ·
          show Act.put _ (some 42) _ = _
          simp only [Act.put, List.setIfInBounds_toArray, List.set_cons_zero, List.set_cons_succ, i64_w, i32_w, IntKind.wrap_u32]
          rfl
         refine one_ (i := 6) (N := some 45) #[true, true, true, true, true, true, true, false, false] rfl rfl (one_of HT_.out (by kernel_rfl)) (by decide) (fun K hK => ?_)
         refine Kd.R_append_rows_step (Kd.int .u32) (w0 := w) w.heap.size (by rfl) (.tmp 42) (.tmp 44) 23 22 (.int .u32 0) 4 rfl Try.underlying23 info22 rfl (by decide) (by omega) v21 y20 t6 _ _ _ (fun k_ => some k_ ≠ (.slice Ao15 t6.length co15 : Value).ownBlock ∧ some k_ ≠ (.slice Ao16 t9.length co16 : Value).ownBlock) (fun _ => False) rfl rfl ?aO ?aR (fun _ _ h => h) (fun _ h => h.elim) ?aF ?aB ?aS ?aL ?_
         (case aR => repeat (first | exact (Kd.R_reads' HO8.out).2.2 | (with_reducible refine Kd.C_alloc ?_ _) | (with_reducible refine Kd.C_drewN ?_ _) | (with_reducible refine Kd.C_drew ?_)))
         (case aB => exact (hbW HB))
         (case aF => exact (fun k_ hk => ⟨Kd.fresh' (Kd.R_lt (rW HO8)) k_ hk, Kd.fresh' (Kd.R_lt (rW HO11)) k_ hk⟩))
         (case aO => exact (rW HO22))
         (case aS => exact (below_size (hbW HB)))
         (case aL => have := LMc76.out; omega)
         intro v24 w95 ho hb hg hat
         rw [← Ny23.out] at ho
         have n0_ := Aside0.mk (blk_grown (g := gb1) (o := .cells #[.int .i64 a0_0, .int .u32 a0_1, .slice A0_2 l0_2.length c0_2, .slice A0_3 l0_3.length c0_3] 26 (0, 0)) (bkW BK1) hg (Kd.R_ne HO22.out BK1.out (by decide)))
         have n1_ := Aside0.mk (blk_grown (g := gb2) (o := .cells #[.int .u32 t4, .int .i64 t5, .slice Ao15 t6.length co15, .slice Ao16 t9.length co16, .int .u32 t12, .int .u32 t13, .int .i64 t14, .int .u32 t15] 30 (0, 0)) (bkW BK2) hg (Kd.R_ne HO22.out BK2.out (by decide)))
         have n2_ := Aside0.mk (blk_grown (g := gb3) (o := .cells #[.int .u32 0, .int .i64 0, .slice none 0 0, .slice none 0 0, .int .u32 0, .int .u32 0, .int .i64 0, .int .u32 0] 30 (0, 0)) (bkW BK3) hg (Kd.R_ne HO22.out BK3.out (by decide)))
         have n3_ := Aside0.mk (Kd.R_after (ok := (fun k_ => some k_ ≠ (.slice Ao16 t9.length co16 : Value).ownBlock)) (rW HO8) hg hat)
         have n4_ := Aside0.mk (Kd.R_after (ok := (fun k_ => some k_ ≠ (.slice Ao15 t6.length co15 : Value).ownBlock)) (rW HO11) hg hat)
         have n5_ := Aside0.mk (hb)
         have n6_ := Aside0.mk (ho)
         clear BK1
         clear BK2
         clear BK3
         clear HO8
         clear HO11
         clear HB
         clear HO22
         have BK1 := n0_
         have BK2 := n1_
         have BK3 := n2_
         have HO8 := n3_
         have HO11 := n4_
         have HB := n5_
         have HO25 := n6_
         clear n0_ n1_ n2_ n3_ n4_ n5_ n6_
         clear ho hb hg hat
         obtain ⟨Ao96, co96, eo96⟩ := Kd.R_slice HO25.out
         (first | subst eo96 | (injection eo96 with f1_ f2_ f3_; have f4_ := f1_.symm; have f5_ := f3_.symm; clear f1_ f2_ f3_; subst f4_; subst f5_))
         refine hK.out _ _ ⟨(blk_cell BK1.out 0).trans rfl, (blk_cell BK1.out 1).trans rfl, (blk_cell BK1.out 2).trans rfl, (blk_cell BK1.out 3).trans rfl, (blk_cell BK2.out 0).trans rfl, (blk_cell BK2.out 1).trans rfl, (blk_cell BK2.out 2).trans rfl, (blk_cell BK2.out 3).trans rfl, (blk_cell BK2.out 4).trans rfl, (blk_cell BK2.out 5).trans rfl, (blk_cell BK2.out 6).trans rfl, (blk_cell BK2.out 7).trans rfl⟩ (fun hHeld => ?_)
         clear hK K
         refine norm_ (a' := ?_) ?_ ?_
         rotate_left
         ·
          show Act.put _ (some 45) _ = _
          simp only [Act.put, List.setIfInBounds_toArray, List.set_cons_zero, List.set_cons_succ, i64_w, i32_w, IntKind.wrap_u32]
          rfl
         refine pure_ (i := 7) (N := some 46) (v := ?_) (a' := ?_) #[true, true, true, true, true, true, true, true, false] rfl rfl (any_of HT_.out (by kernel_rfl)) (fun _ _ _ h => h) (Or.inl ⟨by rfl, ?_⟩) ?_ ?_
         rotate_left
         ·
          intro w'
          go_simp
          with_reducible rfl
         rotate_left
         ·
          simp only [Act.put, List.setIfInBounds_toArray, List.set_cons_zero, List.set_cons_succ, i64_w, i32_w, IntKind.wrap_u32]
          rfl
         refine last_ (i := 8) (N := none) #[true, true, true, true, true, true, true, true, true] rfl rfl (one_of HT_.out (by kernel_rfl)) (by decide) (fun K hK => ?_)
         have hs97 : w95.cell? ⟨gb2, 2, none⟩ = some (.slice Ao15 t6.length co15) := (blk_cell BK2.out 2).trans rfl
         have hfs97 := blk_frozen BK2.out 2
         have hns97_0 := NB1_2.out
         have hns97_2 := NB3_2.out
         have hms97_0 := NB2_1.out
         have hms97_2 := NB2_3.out
         refine skip_ (w1 := ?_) (by rfl) rfl ?_ ?_
         rotate_left
         ·
          go_simp
          rfl
         refine hK.out _ _ ?_
         clear hK K
         refine done_ (done_of HT_.out (by kernel_rfl)) ?_
         have hcz98_0 : w95.cell? ⟨gb2, 0, none⟩ = some (.int .u32 t4) := (blk_cell BK2.out 0).trans rfl
         have hcz98_1 : w95.cell? ⟨gb2, 1, none⟩ = some (.int .i64 t5) := (blk_cell BK2.out 1).trans rfl
         have hcz98_2 : w95.cell? ⟨gb2, 2, none⟩ = some (.slice Ao15 t6.length co15) := (blk_cell BK2.out 2).trans rfl
         have hcz98_3 : w95.cell? ⟨gb2, 3, none⟩ = some (.slice Ao16 t9.length co16) := (blk_cell BK2.out 3).trans rfl
         have hcz98_4 : w95.cell? ⟨gb2, 4, none⟩ = some (.int .u32 t12) := (blk_cell BK2.out 4).trans rfl
         have hcz98_5 : w95.cell? ⟨gb2, 5, none⟩ = some (.int .u32 t13) := (blk_cell BK2.out 5).trans rfl
         have hcz98_6 : w95.cell? ⟨gb2, 6, none⟩ = some (.int .i64 t14) := (blk_cell BK2.out 6).trans rfl
         have hcz98_7 : w95.cell? ⟨gb2, 7, none⟩ = some (.int .u32 t15) := (blk_cell BK2.out 7).trans rfl
         have hfz98_0 := blk_frozen BK2.out 0
         have hfz98_1 := blk_frozen BK2.out 1
         have hfz98_2 := blk_frozen BK2.out 2
         have hfz98_3 := blk_frozen BK2.out 3
         have hfz98_4 := blk_frozen BK2.out 4
         have hfz98_5 := blk_frozen BK2.out 5
         have hfz98_6 := blk_frozen BK2.out 6
         have hfz98_7 := blk_frozen BK2.out 7
         have hcz99_0 : w95.cell? ⟨gb3, 0, none⟩ = some (.int .u32 0) := (blk_cell BK3.out 0).trans rfl
         have hcz99_1 : w95.cell? ⟨gb3, 1, none⟩ = some (.int .i64 0) := (blk_cell BK3.out 1).trans rfl
         have hcz99_2 : w95.cell? ⟨gb3, 2, none⟩ = some (.slice none 0 0) := (blk_cell BK3.out 2).trans rfl
         have hcz99_3 : w95.cell? ⟨gb3, 3, none⟩ = some (.slice none 0 0) := (blk_cell BK3.out 3).trans rfl
         have hcz99_4 : w95.cell? ⟨gb3, 4, none⟩ = some (.int .u32 0) := (blk_cell BK3.out 4).trans rfl
         have hcz99_5 : w95.cell? ⟨gb3, 5, none⟩ = some (.int .u32 0) := (blk_cell BK3.out 5).trans rfl
         have hcz99_6 : w95.cell? ⟨gb3, 6, none⟩ = some (.int .i64 0) := (blk_cell BK3.out 6).trans rfl
         have hcz99_7 : w95.cell? ⟨gb3, 7, none⟩ = some (.int .u32 0) := (blk_cell BK3.out 7).trans rfl
         have hfz99_0 := blk_frozen BK3.out 0
         have hfz99_1 := blk_frozen BK3.out 1
         have hfz99_2 := blk_frozen BK3.out 2
         have hfz99_3 := blk_frozen BK3.out 3
         have hfz99_4 := blk_frozen BK3.out 4
         have hfz99_5 := blk_frozen BK3.out 5
         have hfz99_6 := blk_frozen BK3.out 6
         have hfz99_7 := blk_frozen BK3.out 7
         try go_wp2
         refine bodyPost_ret (results_cell_row rfl _ _ gb3 30 #[.int .u32 t4, .int .i64 t5, .slice Ao96 y23.length co96, .slice Ao16 t9.length co16, .int .u32 t12, .int .u32 t13, .int .i64 t14, .int .u32 t15] (0, 0) _ rfl (bp8 BK3) Try.underlying30 rfl (by kernel_rfl)) rfl ?_
         exact ⟨_, _, by first | rfl | (simp [errW_none, errW_some] <;> rfl) | (simp [*, errW_none, errW_some] <;> rfl), by (with_reducible repeat (first | apply Kd.R_alloc | apply Kd.R_drewN | apply Kd.R_drew)); exact Kd.R_mono (Kd.R_far (p := ⟨gb3, 7, none⟩) (Kd.R_far (p := ⟨gb3, 6, none⟩) (Kd.R_far (p := ⟨gb3, 5, none⟩) (Kd.R_far (p := ⟨gb3, 4, none⟩) (Kd.R_far (p := ⟨gb3, 3, none⟩) (Kd.R_far (p := ⟨gb3, 2, none⟩) (Kd.R_far (p := ⟨gb3, 1, none⟩) (Kd.R_far (p := ⟨gb3, 0, none⟩) (Kd.R_far (p := ⟨gb2, 2, none⟩) (Kd.R_types (Kd.R_types HO25.out BK2.out (by decide)) BK3.out (by decide)) (fun _ hk => hk.1.2) (.slice Ao96 y23.length co96)) (fun _ hk => hk.2) (.int .u32 t4)) (fun _ hk => hk.2) (.int .i64 t5)) (fun _ hk => hk.2) (.slice Ao96 y23.length co96)) (fun _ hk => hk.2) (.slice Ao16 t9.length co16)) (fun _ hk => hk.2) (.int .u32 t12)) (fun _ hk => hk.2) (.int .u32 t13)) (fun _ hk => hk.2) (.int .i64 t14)) (fun _ hk => hk.2) (.int .u32 t15)) (fun _ hk => hk.1.1.2), by (with_reducible repeat (first | apply Kd.R_alloc | apply Kd.R_drewN | apply Kd.R_drew)); exact Kd.R_mono (Kd.R_far (p := ⟨gb3, 7, none⟩) (Kd.R_far (p := ⟨gb3, 6, none⟩) (Kd.R_far (p := ⟨gb3, 5, none⟩) (Kd.R_far (p := ⟨gb3, 4, none⟩) (Kd.R_far (p := ⟨gb3, 3, none⟩) (Kd.R_far (p := ⟨gb3, 2, none⟩) (Kd.R_far (p := ⟨gb3, 1, none⟩) (Kd.R_far (p := ⟨gb3, 0, none⟩) (Kd.R_far (p := ⟨gb2, 2, none⟩) (Kd.R_types (Kd.R_types HO11.out BK2.out (by decide)) BK3.out (by decide)) (fun _ hk => hk.1.2) (.slice Ao96 y23.length co96)) (fun _ hk => hk.2) (.int .u32 t4)) (fun _ hk => hk.2) (.int .i64 t5)) (fun _ hk => hk.2) (.slice Ao96 y23.length co96)) (fun _ hk => hk.2) (.slice Ao16 t9.length co16)) (fun _ hk => hk.2) (.int .u32 t12)) (fun _ hk => hk.2) (.int .u32 t13)) (fun _ hk => hk.2) (.int .i64 t14)) (fun _ hk => hk.2) (.int .u32 t15)) (fun _ hk => hk.1.1.2), hbW HB⟩
        ·
         rw [if_neg c76] at H
         exact absurd H (by simp)
       ·
        rw [if_neg c75] at H
        exact absurd H (by simp)
      ·
       rw [if_neg c74] at H
       have c74b0 : (a0_0 == 5) = false := beq_eq_false_iff_ne.mpr c74
       have c74b1 : (a0_0 != 5) = true := bne_iff_ne.mpr c74
       by_cases c100 : a0_0 = 6
       ·
        rw [if_pos c100] at H
        have c100b0 : (a0_0 == 6) = true := beq_iff_eq.mpr c100
        have c100b1 : (a0_0 != 6) = false := bne_eq_false_iff_eq.mpr c100
        clear c100
        by_cases c101 : t9.length + l0_2.length < 35184372088832
        ·
         rw [if_pos c101] at H
         have LMc101 := Aside0.mk c101
         clear c101
         obtain ⟨y26, hy26⟩ : ∃ y_ : List Int, y_ = (t9 ++ l0_2) := ⟨_, rfl⟩
         replace H : ((q19z.f k y26).bind fun t29 => (some (t4, t5, t6, t29, t12, t13, t14, t15))) = some (r1, r2, r3, r4, r5, r6, r7, r8) := by first | (rw [hy26]; with_reducible exact H) | (have H2_ := (Option.bind_some _ _).symm.trans H; rw [hy26]; with_reducible exact H2_) | (have H2_ := (Option.bind_some _ _).symm.trans H; with_reducible exact H2_) | with_reducible exact H | (rw [hy26]; exact H) | exact H
         have Ny26 := Aside0.mk hy26
         clear hy26
         replace H := Option.bind_eq_some_iff.mp H
         obtain ⟨t29, A1020, H⟩ := H
         replace H : (some (t4, t5, t6, t29, t12, t13, t14, t15)) = some (r1, r2, r3, r4, r5, r6, r7, r8) := H
         have A102 := Aside0.mk A1020
         clear A1020
         simp only [Option.some.injEq, Prod.mk.injEq] at H
         obtain ⟨rfl, rfl, rfl, rfl, rfl, rfl, rfl, rfl⟩ := H
         go_wp2_with (first | ((with_reducible refine gate_builtin (b := .append) (xs := #[.tmp 50, .tmp 52]) rfl ?_); at_builtin; refine Kd.R_append_rows (Kd.int .u32) (w0 := w) w.heap.size rfl (.tmp 50) (.tmp 52) 23 22 (.int .u32 0) 4 rfl Try.underlying23 info22 rfl (by decide) (by omega) (.slice Ao16 t9.length co16) t9 l0_2 _ _ _ (fun k_ => some k_ ≠ (.slice Ao15 t6.length co15 : Value).ownBlock) (fun _ => False) rfl rfl ?aO ?aR (fun _ _ h => h) (fun _ h => h.elim) ?aF ?aB ?aS ?aL ?_; (case aR => repeat (first | exact (Kd.C_below HR0_2.out HB.out) | (with_reducible refine Kd.C_alloc ?_ _) | (with_reducible refine Kd.C_drewN ?_ _) | (with_reducible refine Kd.C_drew ?_))); (case aB => exact (hbW HB)); (case aF => exact (fun k_ hk => Kd.fresh' (Kd.R_lt (rW HO8)) k_ hk)); (case aO => exact (rW HO11)); (case aS => exact (below_size (hbW HB))); (case aL => have := LMc101.out; omega); intro v27 w118 ho hb hg hat; rw [← Ny26.out] at ho; have n0_ := Aside0.mk (blk_grown (g := gb1) (o := .cells #[.int .i64 a0_0, .int .u32 a0_1, .slice A0_2 l0_2.length c0_2, .slice A0_3 l0_3.length c0_3] 26 (0, 0)) (bkW BK1) hg (Kd.R_ne HO11.out BK1.out (by decide))); have n1_ := Aside0.mk (blk_grown (g := gb2) (o := .cells #[.int .u32 t4, .int .i64 t5, .slice Ao15 t6.length co15, .slice Ao16 t9.length co16, .int .u32 t12, .int .u32 t13, .int .i64 t14, .int .u32 t15] 30 (0, 0)) (bkW BK2) hg (Kd.R_ne HO11.out BK2.out (by decide))); have n2_ := Aside0.mk (blk_grown (g := gb3) (o := .cells #[.int .u32 0, .int .i64 0, .slice none 0 0, .slice none 0 0, .int .u32 0, .int .u32 0, .int .i64 0, .int .u32 0] 30 (0, 0)) (bkW BK3) hg (Kd.R_ne HO11.out BK3.out (by decide))); have n3_ := Aside0.mk (Kd.R_after (ok := (fun _ => True)) (by (with_reducible repeat (first | apply Kd.R_alloc | apply Kd.R_drewN | apply Kd.R_drew)); exact Kd.R_mono HO8.out (fun _ hk => ⟨trivial, hk⟩)) hg hat); have n4_ := Aside0.mk (hb); have n5_ := Aside0.mk (ho); clear BK1; clear BK2; clear BK3; clear HO8; clear HB; clear HO11; have BK1 := n0_; have BK2 := n1_; have BK3 := n2_; have HO8 := n3_; have HB := n4_; have HO28 := n5_; clear n0_ n1_ n2_ n3_ n4_ n5_; clear ho hb hg hat; obtain ⟨Ao119, co119, eo119⟩ := Kd.R_slice HO28.out; subst eo119) | ((with_reducible refine gate_callee (f := 37) rfl ?_); refine goesL_ (some 54) rfl rfl Try.func37 (by kernel_rfl) rfl #[.slice Ao119 y26.length co119] rfl (by (try simp only [List.map_toArray, List.map_cons, List.map_nil]); first | done | rfl | (simp only [List.length_drop, List.length_take]; rfl)) ?_; (with_reducible refine (q19z.calls k _ _ y26 t29 _ ?side1 ?side2 A102.out).mono ?_); (case side1 => repeat (first | exact (Kd.R_reads' HO28.out).2.2 | (with_reducible refine Kd.C_alloc ?_ _) | (with_reducible refine Kd.C_drewN ?_ _) | (with_reducible refine Kd.C_drew ?_))); (case side2 => exact (Kd.R_reads' HO28.out).2.1); rintro e w120 ⟨v30, rfl, ho0, hb⟩; refine ⟨_, rfl, ?_⟩; have n0_ := Aside0.mk (Kd.R_elder' (rW HO8) (Kd.R_base ho0) hb); have n1_ := Aside0.mk (Kd.R_elder' (rW HO28) (Kd.R_base ho0) hb); have n2_ := Aside0.mk (Kd.R_lower (Kd.R_new' (Kd.R_new' ho0 (Kd.R_lt (rW HO8))) (Kd.R_lt (rW HO28))) (below_size (hbW HB))); have n3_ := bkB BK1 hb; have n4_ := bkB BK2 hb; have n5_ := bkB BK3 hb; have n6_ := hbS HB hb; clear HO8; clear HO28; clear BK1; clear BK2; clear BK3; clear HB; have HO8 := n0_; have HO28 := n1_; have HO31 := n2_; have BK1 := n3_; have BK2 := n4_; have BK3 := n5_; have HB := n6_; clear n0_ n1_ n2_ n3_ n4_ n5_ n6_; (try clear hb); (try clear hb2); (try clear hk); (try clear hi); (try clear ho0); obtain ⟨Ao121, co121, eo121⟩ := Kd.R_slice HO31.out; subst eo121; have hcz122_0 : w120.cell? ⟨gb2, 0, none⟩ = some (.int .u32 t4) := (blk_cell BK2.out 0).trans rfl; have hcz122_1 : w120.cell? ⟨gb2, 1, none⟩ = some (.int .i64 t5) := (blk_cell BK2.out 1).trans rfl; have hcz122_2 : w120.cell? ⟨gb2, 2, none⟩ = some (.slice Ao15 t6.length co15) := (blk_cell BK2.out 2).trans rfl; have hcz122_3 : w120.cell? ⟨gb2, 3, none⟩ = some (.slice Ao16 t9.length co16) := (blk_cell BK2.out 3).trans rfl; have hcz122_4 : w120.cell? ⟨gb2, 4, none⟩ = some (.int .u32 t12) := (blk_cell BK2.out 4).trans rfl; have hcz122_5 : w120.cell? ⟨gb2, 5, none⟩ = some (.int .u32 t13) := (blk_cell BK2.out 5).trans rfl; have hcz122_6 : w120.cell? ⟨gb2, 6, none⟩ = some (.int .i64 t14) := (blk_cell BK2.out 6).trans rfl; have hcz122_7 : w120.cell? ⟨gb2, 7, none⟩ = some (.int .u32 t15) := (blk_cell BK2.out 7).trans rfl; have hfz122_0 := blk_frozen BK2.out 0; have hfz122_1 := blk_frozen BK2.out 1; have hfz122_2 := blk_frozen BK2.out 2; have hfz122_3 := blk_frozen BK2.out 3; have hfz122_4 := blk_frozen BK2.out 4; have hfz122_5 := blk_frozen BK2.out 5; have hfz122_6 := blk_frozen BK2.out 6; have hfz122_7 := blk_frozen BK2.out 7; have hcz123_0 : w120.cell? ⟨gb3, 0, none⟩ = some (.int .u32 0) := (blk_cell BK3.out 0).trans rfl; have hcz123_1 : w120.cell? ⟨gb3, 1, none⟩ = some (.int .i64 0) := (blk_cell BK3.out 1).trans rfl; have hcz123_2 : w120.cell? ⟨gb3, 2, none⟩ = some (.slice none 0 0) := (blk_cell BK3.out 2).trans rfl; have hcz123_3 : w120.cell? ⟨gb3, 3, none⟩ = some (.slice none 0 0) := (blk_cell BK3.out 3).trans rfl; have hcz123_4 : w120.cell? ⟨gb3, 4, none⟩ = some (.int .u32 0) := (blk_cell BK3.out 4).trans rfl; have hcz123_5 : w120.cell? ⟨gb3, 5, none⟩ = some (.int .u32 0) := (blk_cell BK3.out 5).trans rfl; have hcz123_6 : w120.cell? ⟨gb3, 6, none⟩ = some (.int .i64 0) := (blk_cell BK3.out 6).trans rfl; have hcz123_7 : w120.cell? ⟨gb3, 7, none⟩ = some (.int .u32 0) := (blk_cell BK3.out 7).trans rfl; have hfz123_0 := blk_frozen BK3.out 0; have hfz123_1 := blk_frozen BK3.out 1; have hfz123_2 := blk_frozen BK3.out 2; have hfz123_3 := blk_frozen BK3.out 3; have hfz123_4 := blk_frozen BK3.out 4; have hfz123_5 := blk_frozen BK3.out 5; have hfz123_6 := blk_frozen BK3.out 6; have hfz123_7 := blk_frozen BK3.out 7))
         refine bodyPost_ret (results_cell_row rfl _ _ gb3 30 #[.int .u32 t4, .int .i64 t5, .slice Ao15 t6.length co15, .slice Ao121 t29.length co121, .int .u32 t12, .int .u32 t13, .int .i64 t14, .int .u32 t15] (0, 0) _ rfl (bp8 BK3) Try.underlying30 rfl (by kernel_rfl)) rfl ?_
         exact ⟨_, _, by first | rfl | (simp [errW_none, errW_some] <;> rfl) | (simp [*, errW_none, errW_some] <;> rfl), by (with_reducible repeat (first | apply Kd.R_alloc | apply Kd.R_drewN | apply Kd.R_drew)); exact Kd.R_mono (Kd.R_far (p := ⟨gb3, 7, none⟩) (Kd.R_far (p := ⟨gb3, 6, none⟩) (Kd.R_far (p := ⟨gb3, 5, none⟩) (Kd.R_far (p := ⟨gb3, 4, none⟩) (Kd.R_far (p := ⟨gb3, 3, none⟩) (Kd.R_far (p := ⟨gb3, 2, none⟩) (Kd.R_far (p := ⟨gb3, 1, none⟩) (Kd.R_far (p := ⟨gb3, 0, none⟩) (Kd.R_far (p := ⟨gb2, 3, none⟩) (Kd.R_types (Kd.R_types HO8.out BK2.out (by decide)) BK3.out (by decide)) (fun _ hk => hk.1.2) (.slice Ao121 t29.length co121)) (fun _ hk => hk.2) (.int .u32 t4)) (fun _ hk => hk.2) (.int .i64 t5)) (fun _ hk => hk.2) (.slice Ao15 t6.length co15)) (fun _ hk => hk.2) (.slice Ao121 t29.length co121)) (fun _ hk => hk.2) (.int .u32 t12)) (fun _ hk => hk.2) (.int .u32 t13)) (fun _ hk => hk.2) (.int .i64 t14)) (fun _ hk => hk.2) (.int .u32 t15)) (fun _ hk => hk.1.1.2), by (with_reducible repeat (first | apply Kd.R_alloc | apply Kd.R_drewN | apply Kd.R_drew)); exact Kd.R_mono (Kd.R_far (p := ⟨gb3, 7, none⟩) (Kd.R_far (p := ⟨gb3, 6, none⟩) (Kd.R_far (p := ⟨gb3, 5, none⟩) (Kd.R_far (p := ⟨gb3, 4, none⟩) (Kd.R_far (p := ⟨gb3, 3, none⟩) (Kd.R_far (p := ⟨gb3, 2, none⟩) (Kd.R_far (p := ⟨gb3, 1, none⟩) (Kd.R_far (p := ⟨gb3, 0, none⟩) (Kd.R_far (p := ⟨gb2, 3, none⟩) (Kd.R_types (Kd.R_types HO31.out BK2.out (by decide)) BK3.out (by decide)) (fun _ hk => hk.1.2) (.slice Ao121 t29.length co121)) (fun _ hk => hk.2) (.int .u32 t4)) (fun _ hk => hk.2) (.int .i64 t5)) (fun _ hk => hk.2) (.slice Ao15 t6.length co15)) (fun _ hk => hk.2) (.slice Ao121 t29.length co121)) (fun _ hk => hk.2) (.int .u32 t12)) (fun _ hk => hk.2) (.int .u32 t13)) (fun _ hk => hk.2) (.int .i64 t14)) (fun _ hk => hk.2) (.int .u32 t15)) (fun _ hk => hk.1.1.1.2), hbW HB⟩
        ·
         rw [if_neg c101] at H
         exact absurd H (by simp)
       ·
        rw [if_neg c100] at H
        have c100b0 : (a0_0 == 6) = false := beq_eq_false_iff_ne.mpr c100
        have c100b1 : (a0_0 != 6) = true := bne_iff_ne.mpr c100
        by_cases c124 : a0_0 = 7
        ·
         rw [if_pos c124] at H
         have c124b0 : (a0_0 == 7) = true := beq_iff_eq.mpr c124
         have c124b1 : (a0_0 != 7) = false := bne_eq_false_iff_eq.mpr c124
         clear c124
         replace H := Option.bind_eq_some_iff.mp H
         obtain ⟨t32, A1250, H⟩ := H
         replace H : (some (t4, t5, t6, t32, t12, t13, t14, t15)) = some (r1, r2, r3, r4, r5, r6, r7, r8) := H
         have A125 := Aside0.mk A1250
         clear A1250
         simp only [Option.some.injEq, Prod.mk.injEq] at H
         obtain ⟨rfl, rfl, rfl, rfl, rfl, rfl, rfl, rfl⟩ := H
         go_wp2_with (first | ((with_reducible refine gate_callee (f := 37) rfl ?_); refine goesL_ (some 60) rfl rfl Try.func37 (by kernel_rfl) rfl #[.slice A0_2 l0_2.length c0_2] rfl (by (try simp only [List.map_toArray, List.map_cons, List.map_nil]); first | done | rfl | (simp only [List.length_drop, List.length_take]; rfl)) ?_; (with_reducible refine (q19z.calls k _ _ l0_2 t32 _ ?side1 ?side2 A125.out).mono ?_); (case side1 => repeat (first | exact (Kd.C_below HR0_2.out HB.out) | (with_reducible refine Kd.C_alloc ?_ _) | (with_reducible refine Kd.C_drewN ?_ _) | (with_reducible refine Kd.C_drew ?_))); (case side2 => exact HC0_2.out); rintro e w140 ⟨v33, rfl, ho0, hb⟩; refine ⟨_, rfl, ?_⟩; have n0_ := Aside0.mk (Kd.R_elder' (rW HO8) (Kd.R_base ho0) hb); have n1_ := Aside0.mk (Kd.R_elder' (rW HO11) (Kd.R_base ho0) hb); have n2_ := Aside0.mk (Kd.R_lower (Kd.R_new' (Kd.R_new' ho0 (Kd.R_lt (rW HO8))) (Kd.R_lt (rW HO11))) (below_size (hbW HB))); have n3_ := bkB BK1 hb; have n4_ := bkB BK2 hb; have n5_ := bkB BK3 hb; have n6_ := hbS HB hb; clear HO8; clear HO11; clear BK1; clear BK2; clear BK3; clear HB; have HO8 := n0_; have HO11 := n1_; have HO34 := n2_; have BK1 := n3_; have BK2 := n4_; have BK3 := n5_; have HB := n6_; clear n0_ n1_ n2_ n3_ n4_ n5_ n6_; (try clear hb); (try clear hb2); (try clear hk); (try clear hi); (try clear ho0); obtain ⟨Ao141, co141, eo141⟩ := Kd.R_slice HO34.out; subst eo141; have hcz142_0 : w140.cell? ⟨gb2, 0, none⟩ = some (.int .u32 t4) := (blk_cell BK2.out 0).trans rfl; have hcz142_1 : w140.cell? ⟨gb2, 1, none⟩ = some (.int .i64 t5) := (blk_cell BK2.out 1).trans rfl; have hcz142_2 : w140.cell? ⟨gb2, 2, none⟩ = some (.slice Ao15 t6.length co15) := (blk_cell BK2.out 2).trans rfl; have hcz142_3 : w140.cell? ⟨gb2, 3, none⟩ = some (.slice Ao16 t9.length co16) := (blk_cell BK2.out 3).trans rfl; have hcz142_4 : w140.cell? ⟨gb2, 4, none⟩ = some (.int .u32 t12) := (blk_cell BK2.out 4).trans rfl; have hcz142_5 : w140.cell? ⟨gb2, 5, none⟩ = some (.int .u32 t13) := (blk_cell BK2.out 5).trans rfl; have hcz142_6 : w140.cell? ⟨gb2, 6, none⟩ = some (.int .i64 t14) := (blk_cell BK2.out 6).trans rfl; have hcz142_7 : w140.cell? ⟨gb2, 7, none⟩ = some (.int .u32 t15) := (blk_cell BK2.out 7).trans rfl; have hfz142_0 := blk_frozen BK2.out 0; have hfz142_1 := blk_frozen BK2.out 1; have hfz142_2 := blk_frozen BK2.out 2; have hfz142_3 := blk_frozen BK2.out 3; have hfz142_4 := blk_frozen BK2.out 4; have hfz142_5 := blk_frozen BK2.out 5; have hfz142_6 := blk_frozen BK2.out 6; have hfz142_7 := blk_frozen BK2.out 7; have hcz143_0 : w140.cell? ⟨gb3, 0, none⟩ = some (.int .u32 0) := (blk_cell BK3.out 0).trans rfl; have hcz143_1 : w140.cell? ⟨gb3, 1, none⟩ = some (.int .i64 0) := (blk_cell BK3.out 1).trans rfl; have hcz143_2 : w140.cell? ⟨gb3, 2, none⟩ = some (.slice none 0 0) := (blk_cell BK3.out 2).trans rfl; have hcz143_3 : w140.cell? ⟨gb3, 3, none⟩ = some (.slice none 0 0) := (blk_cell BK3.out 3).trans rfl; have hcz143_4 : w140.cell? ⟨gb3, 4, none⟩ = some (.int .u32 0) := (blk_cell BK3.out 4).trans rfl; have hcz143_5 : w140.cell? ⟨gb3, 5, none⟩ = some (.int .u32 0) := (blk_cell BK3.out 5).trans rfl; have hcz143_6 : w140.cell? ⟨gb3, 6, none⟩ = some (.int .i64 0) := (blk_cell BK3.out 6).trans rfl; have hcz143_7 : w140.cell? ⟨gb3, 7, none⟩ = some (.int .u32 0) := (blk_cell BK3.out 7).trans rfl; have hfz143_0 := blk_frozen BK3.out 0; have hfz143_1 := blk_frozen BK3.out 1; have hfz143_2 := blk_frozen BK3.out 2; have hfz143_3 := blk_frozen BK3.out 3; have hfz143_4 := blk_frozen BK3.out 4; have hfz143_5 := blk_frozen BK3.out 5; have hfz143_6 := blk_frozen BK3.out 6; have hfz143_7 := blk_frozen BK3.out 7))
         refine bodyPost_ret (results_cell_row rfl _ _ gb3 30 #[.int .u32 t4, .int .i64 t5, .slice Ao15 t6.length co15, .slice Ao141 t32.length co141, .int .u32 t12, .int .u32 t13, .int .i64 t14, .int .u32 t15] (0, 0) _ rfl (bp8 BK3) Try.underlying30 rfl (by kernel_rfl)) rfl ?_
         exact ⟨_, _, by first | rfl | (simp [errW_none, errW_some] <;> rfl) | (simp [*, errW_none, errW_some] <;> rfl), by (with_reducible repeat (first | apply Kd.R_alloc | apply Kd.R_drewN | apply Kd.R_drew)); exact Kd.R_mono (Kd.R_far (p := ⟨gb3, 7, none⟩) (Kd.R_far (p := ⟨gb3, 6, none⟩) (Kd.R_far (p := ⟨gb3, 5, none⟩) (Kd.R_far (p := ⟨gb3, 4, none⟩) (Kd.R_far (p := ⟨gb3, 3, none⟩) (Kd.R_far (p := ⟨gb3, 2, none⟩) (Kd.R_far (p := ⟨gb3, 1, none⟩) (Kd.R_far (p := ⟨gb3, 0, none⟩) (Kd.R_far (p := ⟨gb2, 3, none⟩) (Kd.R_types (Kd.R_types HO8.out BK2.out (by decide)) BK3.out (by decide)) (fun _ hk => hk.1.2) (.slice Ao141 t32.length co141)) (fun _ hk => hk.2) (.int .u32 t4)) (fun _ hk => hk.2) (.int .i64 t5)) (fun _ hk => hk.2) (.slice Ao15 t6.length co15)) (fun _ hk => hk.2) (.slice Ao141 t32.length co141)) (fun _ hk => hk.2) (.int .u32 t12)) (fun _ hk => hk.2) (.int .u32 t13)) (fun _ hk => hk.2) (.int .i64 t14)) (fun _ hk => hk.2) (.int .u32 t15)) (fun _ hk => hk.1.1.2), by (with_reducible repeat (first | apply Kd.R_alloc | apply Kd.R_drewN | apply Kd.R_drew)); exact Kd.R_mono (Kd.R_far (p := ⟨gb3, 7, none⟩) (Kd.R_far (p := ⟨gb3, 6, none⟩) (Kd.R_far (p := ⟨gb3, 5, none⟩) (Kd.R_far (p := ⟨gb3, 4, none⟩) (Kd.R_far (p := ⟨gb3, 3, none⟩) (Kd.R_far (p := ⟨gb3, 2, none⟩) (Kd.R_far (p := ⟨gb3, 1, none⟩) (Kd.R_far (p := ⟨gb3, 0, none⟩) (Kd.R_far (p := ⟨gb2, 3, none⟩) (Kd.R_types (Kd.R_types HO34.out BK2.out (by decide)) BK3.out (by decide)) (fun _ hk => hk.1.2) (.slice Ao141 t32.length co141)) (fun _ hk => hk.2) (.int .u32 t4)) (fun _ hk => hk.2) (.int .i64 t5)) (fun _ hk => hk.2) (.slice Ao15 t6.length co15)) (fun _ hk => hk.2) (.slice Ao141 t32.length co141)) (fun _ hk => hk.2) (.int .u32 t12)) (fun _ hk => hk.2) (.int .u32 t13)) (fun _ hk => hk.2) (.int .i64 t14)) (fun _ hk => hk.2) (.int .u32 t15)) (fun _ hk => hk.1.1.1.2), hbW HB⟩
        ·
         rw [if_neg c124] at H
         have c124b0 : (a0_0 == 7) = false := beq_eq_false_iff_ne.mpr c124
         have c124b1 : (a0_0 != 7) = true := bne_iff_ne.mpr c124
         by_cases c144 : a0_0 = 8
         ·
          rw [if_pos c144] at H
          have c144b0 : (a0_0 == 8) = true := beq_iff_eq.mpr c144
          have c144b1 : (a0_0 != 8) = false := bne_eq_false_iff_eq.mpr c144
          clear c144
          have H' := Aside0.mk H
          clear H
          go_wp2
          go_loopg [5, 67] k (fun kq v5 v67 w' => ∃ (x5_1 : List Int) (x67_1 : Int), v67 = .int .i64 x67_1 ∧ Aside0 (q20z.l0 kq x5_1 t9 (t9.length : Int) x67_1 a0_0 a0_1 l0_2 l0_3 t4 t5 t6 t9 t12 t13 t14 t15 = some (r1, r2, r3, r4, r5, r6, r7, r8)) ∧ Aside0 (kq ≤ k) ∧ Aside0 (Kd.R (Kd.int .u32) 22 w' w.heap.size (fun k_ => some k_ ≠ ((.slice Ao16 t9.length co16) : Value).ownBlock ∧ some k_ ≠ ((.slice Ao15 t6.length co15) : Value).ownBlock ∧ some k_ ≠ ((.slice Ao16 t9.length co16) : Value).ownBlock) v5 x5_1) ∧ Aside0 (Kd.R (Kd.int .u32) 22 w' w.heap.size (fun k_ => some k_ ≠ (v5 : Value).ownBlock ∧ some k_ ≠ ((.slice Ao15 t6.length co15) : Value).ownBlock) (.slice Ao16 t9.length co16) t9) ∧ Aside0 (Kd.R (Kd.int .u32) 22 w' w.heap.size (fun k_ => some k_ ≠ (v5 : Value).ownBlock ∧ some k_ ≠ ((.slice Ao16 t9.length co16) : Value).ownBlock ∧ some k_ ≠ ((.slice Ao16 t9.length co16) : Value).ownBlock) (.slice Ao15 t6.length co15) t6) ∧ Aside0 (Kd.R (Kd.int .u32) 22 w' w.heap.size (fun k_ => some k_ ≠ (v5 : Value).ownBlock ∧ some k_ ≠ ((.slice Ao15 t6.length co15) : Value).ownBlock) (.slice Ao16 t9.length co16) t9) ∧ Aside0 (w'.heap[gb1]? = some (.cells #[.int .i64 a0_0, .int .u32 a0_1, (.slice A0_2 l0_2.length c0_2), (.slice A0_3 l0_3.length c0_3)] 26 (0, 0))) ∧ Aside0 (w'.heap[gb2]? = some (.cells #[.int .u32 t4, .int .i64 t5, (.slice Ao15 t6.length co15), (.slice Ao16 t9.length co16), .int .u32 t12, .int .u32 t13, .int .i64 t14, .int .u32 t15] 30 (0, 0))) ∧ Aside0 (w'.heap[gb3]? = some (.cells #[.int .u32 0, .int .i64 0, (.slice none 0 0), (.slice none 0 0), .int .u32 0, .int .u32 0, .int .i64 0, .int .u32 0] 30 (0, 0))) ∧ Aside0 (Below w.heap.size w w'))
          case atStart => exact ⟨(([] : List Int)), (0), (by first | rfl | (simp; done) | (simp [*]; done)), H', ⟨Nat.le_refl _⟩, ⟨by first | exact Kd.R_nil _ _ _ _ _ | exact Kd.N_nil _ _ _ _ _ | exact Kd.V_nil _ _ _ _ _ | exact Kd.Q_nil _ _ _ _ _ | exact Kd.S_nil _ _ _ _ _⟩, ⟨by (with_reducible repeat (first | apply Kd.R_alloc | apply Kd.R_drewN | apply Kd.R_drew)); exact Kd.R_mono HO11.out (fun _ hk => ⟨(by simp [Value.ownBlock]), hk⟩)⟩, ⟨by (with_reducible repeat (first | apply Kd.R_alloc | apply Kd.R_drewN | apply Kd.R_drew)); exact Kd.R_mono HO8.out (fun _ hk => ⟨(by simp [Value.ownBlock]), ⟨hk, hk⟩⟩)⟩, ⟨by (with_reducible repeat (first | apply Kd.R_alloc | apply Kd.R_drewN | apply Kd.R_drew)); exact Kd.R_mono HO11.out (fun _ hk => ⟨(by simp [Value.ownBlock]), hk⟩)⟩, ⟨by (with_reducible repeat (first | refine blk_drewN ?_ _ | refine blk_drew ?_ | refine blk_alloc ?_ _)); exact BK1.out⟩, ⟨by (with_reducible repeat (first | refine blk_drewN ?_ _ | refine blk_drew ?_ | refine blk_alloc ?_ _)); exact BK2.out⟩, ⟨by (with_reducible repeat (first | refine blk_drewN ?_ _ | refine blk_drew ?_ | refine blk_alloc ?_ _)); exact BK3.out⟩, ⟨hbW HB⟩⟩
          case round =>
           clear H'
           try clear c1
           try clear c2
           try clear p2
           try clear c3
           try clear c4
           try clear c5
           try clear c6
           try clear c6b0
           try clear c6b1
           try clear p6
           try clear c7
           try clear c8
           try clear c10
           try clear c11
           try clear c12
           try clear c13
           try clear c14
           try clear c15
           try clear c17
           try clear c23
           try clear c23b0
           try clear c23b1
           try clear c27
           try clear c28
           try clear c34
           try clear c37
           try clear c40
           try clear c40b0
           try clear c40b1
           try clear c44
           try clear c45
           try clear c51
           try clear c57
           try clear c57b0
           try clear c57b1
           try clear c61
           try clear c62
           try clear p64
           try clear c68
           try clear c74
           try clear c74b0
           try clear c74b1
           try clear c75
           try clear c76
           try clear c80
           try clear c81
           try clear c87
           try clear c100
           try clear c100b0
           try clear c100b1
           try clear c101
           try clear c106
           try clear c107
           try clear c113
           try clear c124
           try clear c124b0
           try clear c124b1
           try clear c129
           try clear c130
           try clear c136
           try clear c144
           try clear c144b0
           try clear c144b1
           try clear c148
           try clear c149
           try clear c155
           try clear hcz108_0
           try clear hcz108_1
           try clear hcz108_2
           try clear hcz108_3
           try clear hcz108_4
           try clear hcz108_5
           try clear hcz108_6
           try clear hcz108_7
           try clear hcz110_0
           try clear hcz110_1
           try clear hcz110_2
           try clear hcz110_3
           try clear hcz110_4
           try clear hcz110_5
           try clear hcz110_6
           try clear hcz110_7
           try clear hcz114_0
           try clear hcz114_1
           try clear hcz114_2
           try clear hcz114_3
           try clear hcz116_0
           try clear hcz116_1
           try clear hcz116_2
           try clear hcz116_3
           try clear hcz117_0
           try clear hcz117_1
           try clear hcz117_2
           try clear hcz117_3
           try clear hcz117_4
           try clear hcz117_5
           try clear hcz117_6
           try clear hcz117_7
           try clear hcz122_0
           try clear hcz122_1
           try clear hcz122_2
           try clear hcz122_3
           try clear hcz122_4
           try clear hcz122_5
           try clear hcz122_6
           try clear hcz122_7
           try clear hcz123_0
           try clear hcz123_1
           try clear hcz123_2
           try clear hcz123_3
           try clear hcz123_4
           try clear hcz123_5
           try clear hcz123_6
           try clear hcz123_7
           try clear hcz12_0
           try clear hcz12_1
           try clear hcz12_2
           try clear hcz12_3
           try clear hcz12_4
           try clear hcz12_5
           try clear hcz12_6
           try clear hcz12_7
           try clear hcz131_0
           try clear hcz131_1
           try clear hcz131_2
           try clear hcz131_3
           try clear hcz131_4
           try clear hcz131_5
           try clear hcz131_6
           try clear hcz131_7
           try clear hcz133_0
           try clear hcz133_1
           try clear hcz133_2
           try clear hcz133_3
           try clear hcz133_4
           try clear hcz133_5
           try clear hcz133_6
           try clear hcz133_7
           try clear hcz137_0
           try clear hcz137_1
           try clear hcz137_2
           try clear hcz137_3
           try clear hcz139_0
           try clear hcz139_1
           try clear hcz139_2
           try clear hcz139_3
           try clear hcz142_0
           try clear hcz142_1
           try clear hcz142_2
           try clear hcz142_3
           try clear hcz142_4
           try clear hcz142_5
           try clear hcz142_6
           try clear hcz142_7
           try clear hcz143_0
           try clear hcz143_1
           try clear hcz143_2
           try clear hcz143_3
           try clear hcz143_4
           try clear hcz143_5
           try clear hcz143_6
           try clear hcz143_7
           try clear hcz14_0
           try clear hcz14_1
           try clear hcz14_2
           try clear hcz14_3
           try clear hcz14_4
           try clear hcz14_5
           try clear hcz14_6
           try clear hcz14_7
           try clear hcz150_0
           try clear hcz150_1
           try clear hcz150_2
           try clear hcz150_3
           try clear hcz150_4
           try clear hcz150_5
           try clear hcz150_6
           try clear hcz150_7
           try clear hcz14_0
           try clear hcz14_1
           try clear hcz14_2
           try clear hcz14_3
           try clear hcz14_4
           try clear hcz14_5
           try clear hcz14_6
           try clear hcz14_7
           try clear hcz156_0
           try clear hcz156_1
           try clear hcz156_2
           try clear hcz156_3
           try clear hcz158_0
           try clear hcz158_1
           try clear hcz158_2
           try clear hcz158_3
           try clear hcz159_0
           try clear hcz159_1
           try clear hcz159_2
           try clear hcz159_3
           try clear hcz159_4
           try clear hcz159_5
           try clear hcz159_6
           try clear hcz159_7
           try clear hcz18_0
           try clear hcz18_1
           try clear hcz18_2
           try clear hcz18_3
           try clear hcz20_0
           try clear hcz20_1
           try clear hcz20_2
           try clear hcz20_3
           try clear hcz21_0
           try clear hcz21_1
           try clear hcz21_2
           try clear hcz21_3
           try clear hcz21_4
           try clear hcz21_5
           try clear hcz21_6
           try clear hcz21_7
           try clear hcz22_0
           try clear hcz22_1
           try clear hcz22_2
           try clear hcz22_3
           try clear hcz22_4
           try clear hcz22_5
           try clear hcz22_6
           try clear hcz22_7
           try clear hcz29_0
           try clear hcz29_1
           try clear hcz29_2
           try clear hcz29_3
           try clear hcz29_4
           try clear hcz29_5
           try clear hcz29_6
           try clear hcz29_7
           try clear hcz31_0
           try clear hcz31_1
           try clear hcz31_2
           try clear hcz31_3
           try clear hcz31_4
           try clear hcz31_5
           try clear hcz31_6
           try clear hcz31_7
           try clear hcz35_0
           try clear hcz35_1
           try clear hcz35_2
           try clear hcz35_3
           try clear hcz37_0
           try clear hcz37_1
           try clear hcz37_2
           try clear hcz37_3
           try clear hcz38_0
           try clear hcz38_1
           try clear hcz38_2
           try clear hcz38_3
           try clear hcz38_4
           try clear hcz38_5
           try clear hcz38_6
           try clear hcz38_7
           try clear hcz39_0
           try clear hcz39_1
           try clear hcz39_2
           try clear hcz39_3
           try clear hcz39_4
           try clear hcz39_5
           try clear hcz39_6
           try clear hcz39_7
           try clear hcz46_0
           try clear hcz46_1
           try clear hcz46_2
           try clear hcz46_3
           try clear hcz46_4
           try clear hcz46_5
           try clear hcz46_6
           try clear hcz46_7
           try clear hcz48_0
           try clear hcz48_1
           try clear hcz48_2
           try clear hcz48_3
           try clear hcz48_4
           try clear hcz48_5
           try clear hcz48_6
           try clear hcz48_7
           try clear hcz52_0
           try clear hcz52_1
           try clear hcz52_2
           try clear hcz52_3
           try clear hcz54_0
           try clear hcz54_1
           try clear hcz54_2
           try clear hcz54_3
           try clear hcz55_0
           try clear hcz55_1
           try clear hcz55_2
           try clear hcz55_3
           try clear hcz55_4
           try clear hcz55_5
           try clear hcz55_6
           try clear hcz55_7
           try clear hcz56_0
           try clear hcz56_1
           try clear hcz56_2
           try clear hcz56_3
           try clear hcz56_4
           try clear hcz56_5
           try clear hcz56_6
           try clear hcz56_7
           try clear hcz63_0
           try clear hcz63_1
           try clear hcz63_2
           try clear hcz63_3
           try clear hcz63_4
           try clear hcz63_5
           try clear hcz63_6
           try clear hcz63_7
           try clear hcz65_0
           try clear hcz65_1
           try clear hcz65_2
           try clear hcz65_3
           try clear hcz65_4
           try clear hcz65_5
           try clear hcz65_6
           try clear hcz65_7
           try clear hcz69_0
           try clear hcz69_1
           try clear hcz69_2
           try clear hcz69_3
           try clear hcz71_0
           try clear hcz71_1
           try clear hcz71_2
           try clear hcz71_3
           try clear hcz72_0
           try clear hcz72_1
           try clear hcz72_2
           try clear hcz72_3
           try clear hcz72_4
           try clear hcz72_5
           try clear hcz72_6
           try clear hcz72_7
           try clear hcz73_0
           try clear hcz73_1
           try clear hcz73_2
           try clear hcz73_3
           try clear hcz73_4
           try clear hcz73_5
           try clear hcz73_6
           try clear hcz73_7
           try clear hcz82_0
           try clear hcz82_1
           try clear hcz82_2
           try clear hcz82_3
           try clear hcz82_4
           try clear hcz82_5
           try clear hcz82_6
           try clear hcz82_7
           try clear hcz84_0
           try clear hcz84_1
           try clear hcz84_2
           try clear hcz84_3
           try clear hcz84_4
           try clear hcz84_5
           try clear hcz84_6
           try clear hcz84_7
           try clear hcz88_0
           try clear hcz88_1
           try clear hcz88_2
           try clear hcz88_3
           try clear hcz90_0
           try clear hcz90_1
           try clear hcz90_2
           try clear hcz90_3
           try clear hcz98_0
           try clear hcz98_1
           try clear hcz98_2
           try clear hcz98_3
           try clear hcz98_4
           try clear hcz98_5
           try clear hcz98_6
           try clear hcz98_7
           try clear hcz99_0
           try clear hcz99_1
           try clear hcz99_2
           try clear hcz99_3
           try clear hcz99_4
           try clear hcz99_5
           try clear hcz99_6
           try clear hcz99_7
           try clear hfz108_0
           try clear hfz108_1
           try clear hfz108_2
           try clear hfz108_3
           try clear hfz108_4
           try clear hfz108_5
           try clear hfz108_6
           try clear hfz108_7
           try clear hfz110_0
           try clear hfz110_1
           try clear hfz110_2
           try clear hfz110_3
           try clear hfz110_4
           try clear hfz110_5
           try clear hfz110_6
           try clear hfz110_7
           try clear hfz114_0
           try clear hfz114_1
           try clear hfz114_2
           try clear hfz114_3
           try clear hfz116_0
           try clear hfz116_1
           try clear hfz116_2
           try clear hfz116_3
           try clear hfz117_0
           try clear hfz117_1
           try clear hfz117_2
           try clear hfz117_3
           try clear hfz117_4
           try clear hfz117_5
           try clear hfz117_6
           try clear hfz117_7
           try clear hfz122_0
           try clear hfz122_1
           try clear hfz122_2
           try clear hfz122_3
           try clear hfz122_4
           try clear hfz122_5
           try clear hfz122_6
           try clear hfz122_7
           try clear hfz123_0
           try clear hfz123_1
           try clear hfz123_2
           try clear hfz123_3
           try clear hfz123_4
           try clear hfz123_5
           try clear hfz123_6
           try clear hfz123_7
           try clear hfz12_0
           try clear hfz12_1
           try clear hfz12_2
           try clear hfz12_3
           try clear hfz12_4
           try clear hfz12_5
           try clear hfz12_6
           try clear hfz12_7
           try clear hfz131_0
           try clear hfz131_1
           try clear hfz131_2
           try clear hfz131_3
           try clear hfz131_4
           try clear hfz131_5
           try clear hfz131_6
           try clear hfz131_7
           try clear hfz133_0
           try clear hfz133_1
           try clear hfz133_2
           try clear hfz133_3
           try clear hfz133_4
           try clear hfz133_5
           try clear hfz133_6
           try clear hfz133_7
           try clear hfz137_0
           try clear hfz137_1
           try clear hfz137_2
           try clear hfz137_3
           try clear hfz139_0
           try clear hfz139_1
           try clear hfz139_2
           try clear hfz139_3
           try clear hfz142_0
           try clear hfz142_1
           try clear hfz142_2
           try clear hfz142_3
           try clear hfz142_4
           try clear hfz142_5
           try clear hfz142_6
           try clear hfz142_7
           try clear hfz143_0
           try clear hfz143_1
           try clear hfz143_2
           try clear hfz143_3
           try clear hfz143_4
           try clear hfz143_5
           try clear hfz143_6
           try clear hfz143_7
           try clear hfz14_0
           try clear hfz14_1
           try clear hfz14_2
           try clear hfz14_3
           try clear hfz14_4
           try clear hfz14_5
           try clear hfz14_6
           try clear hfz14_7
           try clear hfz150_0
           try clear hfz150_1
           try clear hfz150_2
           try clear hfz150_3
           try clear hfz150_4
           try clear hfz150_5
           try clear hfz150_6
           try clear hfz150_7
           try clear hfz14_0
           try clear hfz14_1
           try clear hfz14_2
           try clear hfz14_3
           try clear hfz14_4
           try clear hfz14_5
           try clear hfz14_6
           try clear hfz14_7
           try clear hfz156_0
           try clear hfz156_1
           try clear hfz156_2
           try clear hfz156_3
           try clear hfz158_0
           try clear hfz158_1
           try clear hfz158_2
           try clear hfz158_3
           try clear hfz159_0
           try clear hfz159_1
           try clear hfz159_2
           try clear hfz159_3
           try clear hfz159_4
           try clear hfz159_5
           try clear hfz159_6
           try clear hfz159_7
           try clear hfz18_0
           try clear hfz18_1
           try clear hfz18_2
           try clear hfz18_3
           try clear hfz20_0
           try clear hfz20_1
           try clear hfz20_2
           try clear hfz20_3
           try clear hfz21_0
           try clear hfz21_1
           try clear hfz21_2
           try clear hfz21_3
           try clear hfz21_4
           try clear hfz21_5
           try clear hfz21_6
           try clear hfz21_7
           try clear hfz22_0
           try clear hfz22_1
           try clear hfz22_2
           try clear hfz22_3
           try clear hfz22_4
           try clear hfz22_5
           try clear hfz22_6
           try clear hfz22_7
           try clear hfz29_0
           try clear hfz29_1
           try clear hfz29_2
           try clear hfz29_3
           try clear hfz29_4
           try clear hfz29_5
           try clear hfz29_6
           try clear hfz29_7
           try clear hfz31_0
           try clear hfz31_1
           try clear hfz31_2
           try clear hfz31_3
           try clear hfz31_4
           try clear hfz31_5
           try clear hfz31_6
           try clear hfz31_7
           try clear hfz35_0
           try clear hfz35_1
           try clear hfz35_2
           try clear hfz35_3
           try clear hfz37_0
           try clear hfz37_1
           try clear hfz37_2
           try clear hfz37_3
           try clear hfz38_0
           try clear hfz38_1
           try clear hfz38_2
           try clear hfz38_3
           try clear hfz38_4
           try clear hfz38_5
           try clear hfz38_6
           try clear hfz38_7
           try clear hfz39_0
           try clear hfz39_1
           try clear hfz39_2
           try clear hfz39_3
           try clear hfz39_4
           try clear hfz39_5
           try clear hfz39_6
           try clear hfz39_7
           try clear hfz46_0
           try clear hfz46_1
           try clear hfz46_2
           try clear hfz46_3
           try clear hfz46_4
           try clear hfz46_5
           try clear hfz46_6
           try clear hfz46_7
           try clear hfz48_0
           try clear hfz48_1
           try clear hfz48_2
           try clear hfz48_3
           try clear hfz48_4
           try clear hfz48_5
           try clear hfz48_6
           try clear hfz48_7
           try clear hfz52_0
           try clear hfz52_1
           try clear hfz52_2
           try clear hfz52_3
           try clear hfz54_0
           try clear hfz54_1
           try clear hfz54_2
           try clear hfz54_3
           try clear hfz55_0
           try clear hfz55_1
           try clear hfz55_2
           try clear hfz55_3
           try clear hfz55_4
           try clear hfz55_5
           try clear hfz55_6
           try clear hfz55_7
           try clear hfz56_0
           try clear hfz56_1
           try clear hfz56_2
           try clear hfz56_3
           try clear hfz56_4
           try clear hfz56_5
           try clear hfz56_6
           try clear hfz56_7
           try clear hfz63_0
           try clear hfz63_1
           try clear hfz63_2
           try clear hfz63_3
           try clear hfz63_4
           try clear hfz63_5
           try clear hfz63_6
           try clear hfz63_7
           try clear hfz65_0
           try clear hfz65_1
           try clear hfz65_2
           try clear hfz65_3
           try clear hfz65_4
           try clear hfz65_5
           try clear hfz65_6
           try clear hfz65_7
           try clear hfz69_0
           try clear hfz69_1
           try clear hfz69_2
           try clear hfz69_3
           try clear hfz71_0
           try clear hfz71_1
           try clear hfz71_2
           try clear hfz71_3
           try clear hfz72_0
           try clear hfz72_1
           try clear hfz72_2
           try clear hfz72_3
           try clear hfz72_4
           try clear hfz72_5
           try clear hfz72_6
           try clear hfz72_7
           try clear hfz73_0
           try clear hfz73_1
           try clear hfz73_2
           try clear hfz73_3
           try clear hfz73_4
           try clear hfz73_5
           try clear hfz73_6
           try clear hfz73_7
           try clear hfz82_0
           try clear hfz82_1
           try clear hfz82_2
           try clear hfz82_3
           try clear hfz82_4
           try clear hfz82_5
           try clear hfz82_6
           try clear hfz82_7
           try clear hfz84_0
           try clear hfz84_1
           try clear hfz84_2
           try clear hfz84_3
           try clear hfz84_4
           try clear hfz84_5
           try clear hfz84_6
           try clear hfz84_7
           try clear hfz88_0
           try clear hfz88_1
           try clear hfz88_2
           try clear hfz88_3
           try clear hfz90_0
           try clear hfz90_1
           try clear hfz90_2
           try clear hfz90_3
           try clear hfz98_0
           try clear hfz98_1
           try clear hfz98_2
           try clear hfz98_3
           try clear hfz98_4
           try clear hfz98_5
           try clear hfz98_6
           try clear hfz98_7
           try clear hfz99_0
           try clear hfz99_1
           try clear hfz99_2
           try clear hfz99_3
           try clear hfz99_4
           try clear hfz99_5
           try clear hfz99_6
           try clear hfz99_7
           obtain ⟨x5_1, x67_1, rfl, HA, HK1, HO_5, HO_65, HO_3002, HO_3003, BK1, BK2, BK3, HB⟩ := hrel
           cases gk with
           | zero => exact absurd HA.out (by simp [q20z.l0])
           | succ k1 =>
            have H := HA.out
            clear HA
            simp only [q20z.l0] at H
            by_cases c160 : x67_1 < (t9.length : Int)
            ·
             rw [if_pos c160] at H
             have c160b0 : decide (x67_1 < (t9.length : Int)) = true := decide_eq_true c160
             clear c160
             by_cases c161 : 0 ≤ x67_1
             ·
              rw [if_pos c161] at H
              have c161b0 : decide (0 ≤ x67_1) = true := decide_eq_true c161
              clear c161
              by_cases c162 : x67_1 < (t9.length : Int)
              ·
               rw [if_pos c162] at H
               have c162b0 : decide (x67_1 < (t9.length : Int)) = true := decide_eq_true c162
               clear c162
               obtain ⟨y36, hy36⟩ : ∃ y_ : List Int, y_ = (([rd t9 x67_1] : List Int)) := ⟨_, rfl⟩
               replace H : ((q18z.f k1 l0_3 y36).bind fun t39 => (if t39 = true then (q20z.l0 k1 x5_1 t9 (t9.length : Int) (wrap64 (x67_1 + 1)) a0_0 a0_1 l0_2 l0_3 t4 t5 t6 t9 t12 t13 t14 t15) else (if x5_1.length < 35184372088832 then (q20z.l0 k1 (x5_1 ++ [rd t9 x67_1]) t9 (t9.length : Int) (wrap64 (x67_1 + 1)) a0_0 a0_1 l0_2 l0_3 t4 t5 t6 t9 t12 t13 t14 t15) else (none)))) = some (r1, r2, r3, r4, r5, r6, r7, r8) := by first | (rw [hy36]; with_reducible exact H) | (have H2_ := (Option.bind_some _ _).symm.trans H; rw [hy36]; with_reducible exact H2_) | (have H2_ := (Option.bind_some _ _).symm.trans H; with_reducible exact H2_) | with_reducible exact H | (rw [hy36]; exact H) | exact H
               have Ny36 := Aside0.mk hy36
               clear hy36
               replace H := Option.bind_eq_some_iff.mp H
               obtain ⟨t39, A1630, H⟩ := H
               replace H : (if t39 = true then (q20z.l0 k1 x5_1 t9 (t9.length : Int) (wrap64 (x67_1 + 1)) a0_0 a0_1 l0_2 l0_3 t4 t5 t6 t9 t12 t13 t14 t15) else (if x5_1.length < 35184372088832 then (q20z.l0 k1 (x5_1 ++ [rd t9 x67_1]) t9 (t9.length : Int) (wrap64 (x67_1 + 1)) a0_0 a0_1 l0_2 l0_3 t4 t5 t6 t9 t12 t13 t14 t15) else (none))) = some (r1, r2, r3, r4, r5, r6, r7, r8) := H
               have A163 := Aside0.mk A1630
               clear A1630
               by_cases c164 : t39 = true
               ·
                subst c164
                have H1 : (q20z.l0 k1 x5_1 t9 (t9.length : Int) (wrap64 (x67_1 + 1)) a0_0 a0_1 l0_2 l0_3 t4 t5 t6 t9 t12 t13 t14 t15) = some (r1, r2, r3, r4, r5, r6, r7, r8) := by rw [if_pos rfl] at H; exact H
                clear H
                have H := H1
                clear H1
                have H' := Aside0.mk H
                clear H
                have p35 : 0 ≤ (x67_1 : Int) := of_decide_eq_true (by first | (with_reducible assumption) | assumption)
                have q35 : x67_1 < (t9.length : Int) := of_decide_eq_true (by first | (with_reducible assumption) | assumption)
                obtain ⟨ad35, e35, hx35_0⟩ := Kd.at_int (Kd.R_reads' HO_65.out).2.2 x67_1 p35 q35
                cases e35
                replace p35 := eq_true p35
                replace q35 := eq_true q35
                have hnb165 := NB1_2.out
                have hnc165 := NB2_1.out
                have hnb166 := NB1_3.out
                have hnc166 := NB3_1.out
                have hcz167_0 : wr.cell? ⟨gb1, 0, none⟩ = some (.int .i64 a0_0) := (blk_cell BK1.out 0).trans rfl
                have hcz167_1 : wr.cell? ⟨gb1, 1, none⟩ = some (.int .u32 a0_1) := (blk_cell BK1.out 1).trans rfl
                have hcz167_2 : wr.cell? ⟨gb1, 2, none⟩ = some (.slice A0_2 l0_2.length c0_2) := (blk_cell BK1.out 2).trans rfl
                have hcz167_3 : wr.cell? ⟨gb1, 3, none⟩ = some (.slice A0_3 l0_3.length c0_3) := (blk_cell BK1.out 3).trans rfl
                have hfz167_0 := blk_frozen BK1.out 0
                have hfz167_1 := blk_frozen BK1.out 1
                have hfz167_2 := blk_frozen BK1.out 2
                have hfz167_3 := blk_frozen BK1.out 3
                go_wp2_with (first | ((with_reducible refine gate_dst (N := 74) rfl ?_); refine Kd.R_lit (Kd.int .u32) _ 22 ?hg (N := 74) ?hd (xs := ([rd t9 x67_1] : List Int)) (inner := [.int .u32 (rd t9 x67_1)]) (ok := fun _ => True) (okp := fun _ => True) ?hr ?hp (fun _ hk => hk) trivial (Below.refl _ _) (Nat.le_refl _) (by simp) ?_; (case hd => rfl); (case hg => rfl); (case hr => first | (go_simp; done) | (go_simp; rfl)); (case hp => exact (Reps.one (show Kd.M (Kd.int .u32) _ _ _ (rd t9 x67_1) [.int .u32 (rd t9 x67_1)] from rfl) (Reps.none _ _))); intro v37 w168 ho169 hb hg_ hnew_; clear hg_ hnew_; (first | rw [← Ny36.out] at ho169 | (simp only [Int.reduceToNat] at ho169; rw [← Ny36.out] at ho169)); have n0_ := Aside0.mk (Kd.R_elder' (rW HO_5) (Kd.R_base ho169) hb); have n1_ := Aside0.mk (Kd.R_elder' (rW HO_65) (Kd.R_base ho169) hb); have n2_ := Aside0.mk (Kd.R_elder' (rW HO_3002) (Kd.R_base ho169) hb); have n3_ := Aside0.mk (Kd.R_elder' (rW HO_3003) (Kd.R_base ho169) hb); have n4_ := Aside0.mk (Kd.R_lower (Kd.R_new' (Kd.R_new' (Kd.R_new' (Kd.R_new' ho169 (Kd.R_lt (rW HO_5))) (Kd.R_lt (rW HO_65))) (Kd.R_lt (rW HO_3002))) (Kd.R_lt (rW HO_3003))) (below_size (hbW HB))); have n5_ := bkB BK1 hb; have n6_ := bkB BK2 hb; have n7_ := bkB BK3 hb; have n8_ := hbS HB hb; clear HO_5; clear HO_65; clear HO_3002; clear HO_3003; clear BK1; clear BK2; clear BK3; clear HB; have HO_5 := n0_; have HO_65 := n1_; have HO_3002 := n2_; have HO_3003 := n3_; have HO38 := n4_; have BK1 := n5_; have BK2 := n6_; have BK3 := n7_; have HB := n8_; clear n0_ n1_ n2_ n3_ n4_ n5_ n6_ n7_ n8_; clear hb ho169; obtain ⟨Ao170, co170, eo170⟩ := Kd.R_slice HO38.out; subst eo170) | ((with_reducible refine gate_callee (f := 21) rfl ?_); refine goesL_ (some 75) rfl rfl Try.func21 (by kernel_rfl) rfl #[.slice A0_3 l0_3.length c0_3, .slice Ao170 y36.length co170] rfl (by (try simp only [List.map_toArray, List.map_cons, List.map_nil]); first | done | rfl | (simp only [List.length_drop, List.length_take]; rfl)) ?_; (with_reducible refine (q18z.calls k1 _ _ l0_3 _ _ y36 true _ ?side1 ?side2 ?side3 ?side4 A163.out).mono ?_); (case side1 => repeat (first | exact (Kd.C_below HR0_3.out HB.out) | (with_reducible refine Kd.C_alloc ?_ _) | (with_reducible refine Kd.C_drewN ?_ _) | (with_reducible refine Kd.C_drew ?_))); (case side2 => exact HC0_3.out); (case side3 => repeat (first | exact (Kd.R_reads' HO38.out).2.2 | (with_reducible refine Kd.C_alloc ?_ _) | (with_reducible refine Kd.C_drewN ?_ _) | (with_reducible refine Kd.C_drew ?_))); (case side4 => exact (Kd.R_reads' HO38.out).2.1); rintro e w171 ⟨rfl, hb⟩; refine ⟨_, rfl, ?_⟩; have n0_ := Aside0.mk (Kd.R_below (rW HO_5) hb); have n1_ := Aside0.mk (Kd.R_below (rW HO_65) hb); have n2_ := Aside0.mk (Kd.R_below (rW HO_3002) hb); have n3_ := Aside0.mk (Kd.R_below (rW HO_3003) hb); have n4_ := Aside0.mk (Kd.R_below (rW HO38) hb); have n5_ := bkB BK1 hb; have n6_ := bkB BK2 hb; have n7_ := bkB BK3 hb; have n8_ := hbS HB hb; clear HO_5; clear HO_65; clear HO_3002; clear HO_3003; clear HO38; clear BK1; clear BK2; clear BK3; clear HB; have HO_5 := n0_; have HO_65 := n1_; have HO_3002 := n2_; have HO_3003 := n3_; have HO38 := n4_; have BK1 := n5_; have BK2 := n6_; have BK3 := n7_; have HB := n8_; clear n0_ n1_ n2_ n3_ n4_ n5_ n6_ n7_ n8_; (try clear hb); (try clear hb2); (try clear hk); (try clear hi)))
                go_roundg k1
                case measure => have := HK1.out; omega
                case rel => exact ⟨(x5_1), (wrap64 (x67_1 + 1)), (by first | rfl | (simp; done) | (simp [*]; done)), H', ⟨by have := HK1.out; omega⟩, ⟨by (with_reducible repeat (first | apply Kd.R_alloc | apply Kd.R_drewN | apply Kd.R_drew)); exact Kd.R_mono HO_5.out (fun _ hk => ⟨hk.1.1, ⟨hk.1.2.1, hk.1.2.2⟩⟩)⟩, ⟨by (with_reducible repeat (first | apply Kd.R_alloc | apply Kd.R_drewN | apply Kd.R_drew)); exact Kd.R_mono HO_65.out (fun _ hk => ⟨hk.1.1, hk.1.2⟩)⟩, ⟨by (with_reducible repeat (first | apply Kd.R_alloc | apply Kd.R_drewN | apply Kd.R_drew)); exact Kd.R_mono HO_3002.out (fun _ hk => ⟨hk.1.1, ⟨hk.1.2.1, hk.1.2.2⟩⟩)⟩, ⟨by (with_reducible repeat (first | apply Kd.R_alloc | apply Kd.R_drewN | apply Kd.R_drew)); exact Kd.R_mono HO_3003.out (fun _ hk => ⟨hk.1.1, hk.1.2⟩)⟩, ⟨by (with_reducible repeat (first | refine blk_drewN ?_ _ | refine blk_drew ?_ | refine blk_alloc ?_ _)); exact BK1.out⟩, ⟨by (with_reducible repeat (first | refine blk_drewN ?_ _ | refine blk_drew ?_ | refine blk_alloc ?_ _)); exact BK2.out⟩, ⟨by (with_reducible repeat (first | refine blk_drewN ?_ _ | refine blk_drew ?_ | refine blk_alloc ?_ _)); exact BK3.out⟩, ⟨hbW HB⟩⟩
               ·
                replace c164 := Bool.eq_false_iff.mpr c164
                subst c164
                have H1 : (if x5_1.length < 35184372088832 then (q20z.l0 k1 (x5_1 ++ [rd t9 x67_1]) t9 (t9.length : Int) (wrap64 (x67_1 + 1)) a0_0 a0_1 l0_2 l0_3 t4 t5 t6 t9 t12 t13 t14 t15) else (none)) = some (r1, r2, r3, r4, r5, r6, r7, r8) := by rw [if_neg (show ¬ (false = true) by decide)] at H; exact H
                clear H
                have H := H1
                clear H1
                by_cases c172 : x5_1.length < 35184372088832
                ·
                 rw [if_pos c172] at H
                 have LMc172 := Aside0.mk c172
                 clear c172
                 obtain ⟨y40, hy40⟩ : ∃ y_ : List Int, y_ = (x5_1 ++ [rd t9 x67_1]) := ⟨_, rfl⟩
                 replace H : (q20z.l0 k1 y40 t9 (t9.length : Int) (wrap64 (x67_1 + 1)) a0_0 a0_1 l0_2 l0_3 t4 t5 t6 t9 t12 t13 t14 t15) = some (r1, r2, r3, r4, r5, r6, r7, r8) := by first | (rw [hy40]; with_reducible exact H) | (have H2_ := (Option.bind_some _ _).symm.trans H; rw [hy40]; with_reducible exact H2_) | (have H2_ := (Option.bind_some _ _).symm.trans H; with_reducible exact H2_) | with_reducible exact H | (rw [hy40]; exact H) | exact H
                 have Ny40 := Aside0.mk hy40
                 clear hy40
                 have H' := Aside0.mk H
                 clear H
                 have p35 : 0 ≤ (x67_1 : Int) := of_decide_eq_true (by first | (with_reducible assumption) | assumption)
                 have q35 : x67_1 < (t9.length : Int) := of_decide_eq_true (by first | (with_reducible assumption) | assumption)
                 obtain ⟨ad35, e35, hx35_0⟩ := Kd.at_int (Kd.R_reads' HO_65.out).2.2 x67_1 p35 q35
                 cases e35
                 replace p35 := eq_true p35
                 replace q35 := eq_true q35
                 have hnb173 := NB1_2.out
                 have hnc173 := NB2_1.out
                 have hnb174 := NB1_3.out
                 have hnc174 := NB3_1.out
                 have hcz175_0 : wr.cell? ⟨gb1, 0, none⟩ = some (.int .i64 a0_0) := (blk_cell BK1.out 0).trans rfl
                 have hcz175_1 : wr.cell? ⟨gb1, 1, none⟩ = some (.int .u32 a0_1) := (blk_cell BK1.out 1).trans rfl
                 have hcz175_2 : wr.cell? ⟨gb1, 2, none⟩ = some (.slice A0_2 l0_2.length c0_2) := (blk_cell BK1.out 2).trans rfl
                 have hcz175_3 : wr.cell? ⟨gb1, 3, none⟩ = some (.slice A0_3 l0_3.length c0_3) := (blk_cell BK1.out 3).trans rfl
                 have hfz175_0 := blk_frozen BK1.out 0
                 have hfz175_1 := blk_frozen BK1.out 1
                 have hfz175_2 := blk_frozen BK1.out 2
                 have hfz175_3 := blk_frozen BK1.out 3
                 go_wp2_with (first | ((with_reducible refine gate_dst (N := 74) rfl ?_); refine Kd.R_lit (Kd.int .u32) _ 22 ?hg (N := 74) ?hd (xs := ([rd t9 x67_1] : List Int)) (inner := [.int .u32 (rd t9 x67_1)]) (ok := fun _ => True) (okp := fun _ => True) ?hr ?hp (fun _ hk => hk) trivial (Below.refl _ _) (Nat.le_refl _) (by simp) ?_; (case hd => rfl); (case hg => rfl); (case hr => first | (go_simp; done) | (go_simp; rfl)); (case hp => exact (Reps.one (show Kd.M (Kd.int .u32) _ _ _ (rd t9 x67_1) [.int .u32 (rd t9 x67_1)] from rfl) (Reps.none _ _))); intro v37 w176 ho177 hb hg_ hnew_; clear hg_ hnew_; (first | rw [← Ny36.out] at ho177 | (simp only [Int.reduceToNat] at ho177; rw [← Ny36.out] at ho177)); have n0_ := Aside0.mk (Kd.R_elder' (rW HO_5) (Kd.R_base ho177) hb); have n1_ := Aside0.mk (Kd.R_elder' (rW HO_65) (Kd.R_base ho177) hb); have n2_ := Aside0.mk (Kd.R_elder' (rW HO_3002) (Kd.R_base ho177) hb); have n3_ := Aside0.mk (Kd.R_elder' (rW HO_3003) (Kd.R_base ho177) hb); have n4_ := Aside0.mk (Kd.R_lower (Kd.R_new' (Kd.R_new' (Kd.R_new' (Kd.R_new' ho177 (Kd.R_lt (rW HO_5))) (Kd.R_lt (rW HO_65))) (Kd.R_lt (rW HO_3002))) (Kd.R_lt (rW HO_3003))) (below_size (hbW HB))); have n5_ := bkB BK1 hb; have n6_ := bkB BK2 hb; have n7_ := bkB BK3 hb; have n8_ := hbS HB hb; clear HO_5; clear HO_65; clear HO_3002; clear HO_3003; clear BK1; clear BK2; clear BK3; clear HB; have HO_5 := n0_; have HO_65 := n1_; have HO_3002 := n2_; have HO_3003 := n3_; have HO38 := n4_; have BK1 := n5_; have BK2 := n6_; have BK3 := n7_; have HB := n8_; clear n0_ n1_ n2_ n3_ n4_ n5_ n6_ n7_ n8_; clear hb ho177; obtain ⟨Ao178, co178, eo178⟩ := Kd.R_slice HO38.out; subst eo178) | ((with_reducible refine gate_callee (f := 21) rfl ?_); refine goesL_ (some 75) rfl rfl Try.func21 (by kernel_rfl) rfl #[.slice A0_3 l0_3.length c0_3, .slice Ao178 y36.length co178] rfl (by (try simp only [List.map_toArray, List.map_cons, List.map_nil]); first | done | rfl | (simp only [List.length_drop, List.length_take]; rfl)) ?_; (with_reducible refine (q18z.calls k1 _ _ l0_3 _ _ y36 false _ ?side1 ?side2 ?side3 ?side4 A163.out).mono ?_); (case side1 => repeat (first | exact (Kd.C_below HR0_3.out HB.out) | (with_reducible refine Kd.C_alloc ?_ _) | (with_reducible refine Kd.C_drewN ?_ _) | (with_reducible refine Kd.C_drew ?_))); (case side2 => exact HC0_3.out); (case side3 => repeat (first | exact (Kd.R_reads' HO38.out).2.2 | (with_reducible refine Kd.C_alloc ?_ _) | (with_reducible refine Kd.C_drewN ?_ _) | (with_reducible refine Kd.C_drew ?_))); (case side4 => exact (Kd.R_reads' HO38.out).2.1); rintro e w179 ⟨rfl, hb⟩; refine ⟨_, rfl, ?_⟩; have n0_ := Aside0.mk (Kd.R_below (rW HO_5) hb); have n1_ := Aside0.mk (Kd.R_below (rW HO_65) hb); have n2_ := Aside0.mk (Kd.R_below (rW HO_3002) hb); have n3_ := Aside0.mk (Kd.R_below (rW HO_3003) hb); have n4_ := Aside0.mk (Kd.R_below (rW HO38) hb); have n5_ := bkB BK1 hb; have n6_ := bkB BK2 hb; have n7_ := bkB BK3 hb; have n8_ := hbS HB hb; clear HO_5; clear HO_65; clear HO_3002; clear HO_3003; clear HO38; clear BK1; clear BK2; clear BK3; clear HB; have HO_5 := n0_; have HO_65 := n1_; have HO_3002 := n2_; have HO_3003 := n3_; have HO38 := n4_; have BK1 := n5_; have BK2 := n6_; have BK3 := n7_; have HB := n8_; clear n0_ n1_ n2_ n3_ n4_ n5_ n6_ n7_ n8_; (try clear hb); (try clear hb2); (try clear hk); (try clear hi)) | ((with_reducible refine gate_builtin (b := .append) (xs := #[.tmp 77, .tmp 79]) rfl ?_); at_builtin; refine Kd.R_append (Kd.int .u32) (w0 := w) w.heap.size rfl (.tmp 77) (.tmp 79) 23 22 (.int .u32 0) 4 rfl Try.underlying23 info22 rfl (by decide) (by omega) u5 x5_1 (rd t9 x67_1) [.int .u32 (rd t9 x67_1)] (fun k_ => some k_ ≠ (.slice (some ad35) t9.length co16 : Value).ownBlock ∧ some k_ ≠ (.slice Ao15 t6.length co15 : Value).ownBlock ∧ some k_ ≠ (.slice (some ad35) t9.length co16 : Value).ownBlock ∧ some k_ ≠ (.slice Ao178 y36.length co178 : Value).ownBlock) (fun _ => False) rfl rfl ?aP (fun _ hk => hk.elim) ?aF ?aO ?aB ?aS ?aL ?_; (case aP => exact rfl); (case aB => exact (hbW HB)); (case aF => exact (fun k_ hk => ⟨Kd.fresh' (Kd.R_lt (rW HO_65)) k_ hk, Kd.fresh' (Kd.R_lt (rW HO_3002)) k_ hk, Kd.fresh' (Kd.R_lt (rW HO_3003)) k_ hk, Kd.fresh' (Kd.R_lt (rW HO38)) k_ hk⟩)); (case aO => exact (by (with_reducible repeat (first | apply Kd.R_alloc | apply Kd.R_drewN | apply Kd.R_drew)); exact Kd.R_mono HO_5.out (fun _ hk => ⟨hk.1.1, ⟨hk.1.2.1, ⟨hk.1.2.2, hk.2⟩⟩⟩))); (case aS => exact (below_size (hbW HB))); (case aL => have := LMc172.out; omega); intro v41 w180 ho hb hg hat; rw [← Ny40.out] at ho; have n0_ := Aside0.mk (Kd.R_after (ok := (fun k_ => some k_ ≠ (.slice Ao15 t6.length co15 : Value).ownBlock ∧ some k_ ≠ (.slice Ao178 y36.length co178 : Value).ownBlock)) (by (with_reducible repeat (first | apply Kd.R_alloc | apply Kd.R_drewN | apply Kd.R_drew)); exact Kd.R_mono HO_65.out (fun _ hk => ⟨⟨hk.1.2, hk.2⟩, hk.1.1⟩)) hg hat); have n1_ := Aside0.mk (Kd.R_after (ok := (fun k_ => some k_ ≠ (.slice (some ad35) t9.length co16 : Value).ownBlock ∧ some k_ ≠ (.slice (some ad35) t9.length co16 : Value).ownBlock ∧ some k_ ≠ (.slice Ao178 y36.length co178 : Value).ownBlock)) (by (with_reducible repeat (first | apply Kd.R_alloc | apply Kd.R_drewN | apply Kd.R_drew)); exact Kd.R_mono HO_3002.out (fun _ hk => ⟨⟨hk.1.2.1, ⟨hk.1.2.2, hk.2⟩⟩, hk.1.1⟩)) hg hat); have n2_ := Aside0.mk (Kd.R_after (ok := (fun k_ => some k_ ≠ (.slice Ao15 t6.length co15 : Value).ownBlock ∧ some k_ ≠ (.slice Ao178 y36.length co178 : Value).ownBlock)) (by (with_reducible repeat (first | apply Kd.R_alloc | apply Kd.R_drewN | apply Kd.R_drew)); exact Kd.R_mono HO_3003.out (fun _ hk => ⟨⟨hk.1.2, hk.2⟩, hk.1.1⟩)) hg hat); have n3_ := Aside0.mk (blk_grown (g := gb1) (o := .cells #[.int .i64 a0_0, .int .u32 a0_1, .slice A0_2 l0_2.length c0_2, .slice A0_3 l0_3.length c0_3] 26 (0, 0)) (bkW BK1) hg (Kd.R_ne HO_5.out BK1.out (by decide))); have n4_ := Aside0.mk (blk_grown (g := gb2) (o := .cells #[.int .u32 t4, .int .i64 t5, .slice Ao15 t6.length co15, .slice (some ad35) t9.length co16, .int .u32 t12, .int .u32 t13, .int .i64 t14, .int .u32 t15] 30 (0, 0)) (bkW BK2) hg (Kd.R_ne HO_5.out BK2.out (by decide))); have n5_ := Aside0.mk (blk_grown (g := gb3) (o := .cells #[.int .u32 0, .int .i64 0, .slice none 0 0, .slice none 0 0, .int .u32 0, .int .u32 0, .int .i64 0, .int .u32 0] 30 (0, 0)) (bkW BK3) hg (Kd.R_ne HO_5.out BK3.out (by decide))); have n6_ := Aside0.mk (Kd.R_after (ok := (fun k_ => some k_ ≠ (.slice (some ad35) t9.length co16 : Value).ownBlock ∧ some k_ ≠ (.slice Ao15 t6.length co15 : Value).ownBlock ∧ some k_ ≠ (.slice (some ad35) t9.length co16 : Value).ownBlock)) (by (with_reducible repeat (first | apply Kd.R_alloc | apply Kd.R_drewN | apply Kd.R_drew)); exact Kd.R_mono HO38.out (fun _ hk => ⟨⟨hk.1.1.2, ⟨hk.1.2, hk.2⟩⟩, hk.1.1.1.2⟩)) hg hat); have n7_ := Aside0.mk (hb); have n8_ := Aside0.mk (ho); clear HO_65; clear HO_3002; clear HO_3003; clear BK1; clear BK2; clear BK3; clear HO38; clear HB; clear HO_5; have HO_65 := n0_; have HO_3002 := n1_; have HO_3003 := n2_; have BK1 := n3_; have BK2 := n4_; have BK3 := n5_; have HO38 := n6_; have HB := n7_; have HO42 := n8_; clear n0_ n1_ n2_ n3_ n4_ n5_ n6_ n7_ n8_; clear ho hb hg hat))
                 go_roundg k1
                 case measure => have := HK1.out; omega
                 case rel => exact ⟨(y40), (wrap64 (x67_1 + 1)), (by first | rfl | (simp; done) | (simp [*]; done)), H', ⟨by have := HK1.out; omega⟩, ⟨by (with_reducible repeat (first | apply Kd.R_alloc | apply Kd.R_drewN | apply Kd.R_drew)); exact Kd.R_mono HO42.out (fun _ hk => ⟨hk.1, ⟨hk.2.1, hk.2.2.1⟩⟩)⟩, ⟨by (with_reducible repeat (first | apply Kd.R_alloc | apply Kd.R_drewN | apply Kd.R_drew)); exact Kd.R_mono HO_65.out (fun _ hk => ⟨hk.2, hk.1.1⟩)⟩, ⟨by (with_reducible repeat (first | apply Kd.R_alloc | apply Kd.R_drewN | apply Kd.R_drew)); exact Kd.R_mono HO_3002.out (fun _ hk => ⟨hk.2, ⟨hk.1.1, hk.1.2.1⟩⟩)⟩, ⟨by (with_reducible repeat (first | apply Kd.R_alloc | apply Kd.R_drewN | apply Kd.R_drew)); exact Kd.R_mono HO_3003.out (fun _ hk => ⟨hk.2, hk.1.1⟩)⟩, ⟨by (with_reducible repeat (first | refine blk_drewN ?_ _ | refine blk_drew ?_ | refine blk_alloc ?_ _)); exact BK1.out⟩, ⟨by (with_reducible repeat (first | refine blk_drewN ?_ _ | refine blk_drew ?_ | refine blk_alloc ?_ _)); exact BK2.out⟩, ⟨by (with_reducible repeat (first | refine blk_drewN ?_ _ | refine blk_drew ?_ | refine blk_alloc ?_ _)); exact BK3.out⟩, ⟨hbW HB⟩⟩
                ·
                 rw [if_neg c172] at H
                 exact absurd H (by simp)
              ·
               rw [if_neg c162] at H
               exact absurd H (by simp)
             ·
              rw [if_neg c161] at H
              exact absurd H (by simp)
            ·
             rw [if_neg c160] at H
             have c160b0 : decide (x67_1 < (t9.length : Int)) = false := decide_eq_false c160
             clear c160
             replace H := Option.bind_eq_some_iff.mp H
             obtain ⟨t43, A1810, H⟩ := H
             replace H : (some (t4, t5, t6, t43, t12, t13, t14, t15)) = some (r1, r2, r3, r4, r5, r6, r7, r8) := H
             have A181 := Aside0.mk A1810
             clear A1810
             simp only [Option.some.injEq, Prod.mk.injEq] at H
             obtain ⟨rfl, rfl, rfl, rfl, rfl, rfl, rfl, rfl⟩ := H
             obtain ⟨Ao182, co182, eo182⟩ := Kd.R_slice HO_5.out
             subst eo182
             go_wp2_with (first | ((with_reducible refine gate_callee (f := 37) rfl ?_); refine goesL_ (some 83) rfl rfl Try.func37 (by kernel_rfl) rfl #[.slice Ao182 x5_1.length co182] rfl (by (try simp only [List.map_toArray, List.map_cons, List.map_nil]); first | done | rfl | (simp only [List.length_drop, List.length_take]; rfl)) ?_; (with_reducible refine (q19z.calls k1 _ _ x5_1 t43 _ ?side1 ?side2 A181.out).mono ?_); (case side1 => repeat (first | exact (Kd.R_reads' HO_5.out).2.2 | (with_reducible refine Kd.C_alloc ?_ _) | (with_reducible refine Kd.C_drewN ?_ _) | (with_reducible refine Kd.C_drew ?_))); (case side2 => exact (Kd.R_reads' HO_5.out).2.1); rintro e w183 ⟨v44, rfl, ho0, hb⟩; refine ⟨_, rfl, ?_⟩; have n0_ := Aside0.mk (Kd.R_elder' (rW HO_5) (Kd.R_base ho0) hb); have n1_ := Aside0.mk (Kd.R_elder' (rW HO_65) (Kd.R_base ho0) hb); have n2_ := Aside0.mk (Kd.R_elder' (rW HO_3002) (Kd.R_base ho0) hb); have n3_ := Aside0.mk (Kd.R_elder' (rW HO_3003) (Kd.R_base ho0) hb); have n4_ := Aside0.mk (Kd.R_lower (Kd.R_new' (Kd.R_new' (Kd.R_new' (Kd.R_new' ho0 (Kd.R_lt (rW HO_5))) (Kd.R_lt (rW HO_65))) (Kd.R_lt (rW HO_3002))) (Kd.R_lt (rW HO_3003))) (below_size (hbW HB))); have n5_ := bkB BK1 hb; have n6_ := bkB BK2 hb; have n7_ := bkB BK3 hb; have n8_ := hbS HB hb; clear HO_5; clear HO_65; clear HO_3002; clear HO_3003; clear BK1; clear BK2; clear BK3; clear HB; have HO_5 := n0_; have HO_65 := n1_; have HO_3002 := n2_; have HO_3003 := n3_; have HO45 := n4_; have BK1 := n5_; have BK2 := n6_; have BK3 := n7_; have HB := n8_; clear n0_ n1_ n2_ n3_ n4_ n5_ n6_ n7_ n8_; (try clear hb); (try clear hb2); (try clear hk); (try clear hi); (try clear ho0); obtain ⟨Ao184, co184, eo184⟩ := Kd.R_slice HO45.out; subst eo184; have hnb185 := NB2_1.out; have hnc185 := NB1_2.out; have hnb186 := NB2_3.out; have hnc186 := NB3_2.out; have hcz187_0 : w183.cell? ⟨gb2, 0, none⟩ = some (.int .u32 t4) := (blk_cell BK2.out 0).trans rfl; have hcz187_1 : w183.cell? ⟨gb2, 1, none⟩ = some (.int .i64 t5) := (blk_cell BK2.out 1).trans rfl; have hcz187_2 : w183.cell? ⟨gb2, 2, none⟩ = some (.slice Ao15 t6.length co15) := (blk_cell BK2.out 2).trans rfl; have hcz187_3 : w183.cell? ⟨gb2, 3, none⟩ = some (.slice Ao16 t9.length co16) := (blk_cell BK2.out 3).trans rfl; have hcz187_4 : w183.cell? ⟨gb2, 4, none⟩ = some (.int .u32 t12) := (blk_cell BK2.out 4).trans rfl; have hcz187_5 : w183.cell? ⟨gb2, 5, none⟩ = some (.int .u32 t13) := (blk_cell BK2.out 5).trans rfl; have hcz187_6 : w183.cell? ⟨gb2, 6, none⟩ = some (.int .i64 t14) := (blk_cell BK2.out 6).trans rfl; have hcz187_7 : w183.cell? ⟨gb2, 7, none⟩ = some (.int .u32 t15) := (blk_cell BK2.out 7).trans rfl; have hfz187_0 := blk_frozen BK2.out 0; have hfz187_1 := blk_frozen BK2.out 1; have hfz187_2 := blk_frozen BK2.out 2; have hfz187_3 := blk_frozen BK2.out 3; have hfz187_4 := blk_frozen BK2.out 4; have hfz187_5 := blk_frozen BK2.out 5; have hfz187_6 := blk_frozen BK2.out 6; have hfz187_7 := blk_frozen BK2.out 7; have hnb188 := NB3_1.out; have hnc188 := NB1_3.out; have hcz189_0 : w183.cell? ⟨gb3, 0, none⟩ = some (.int .u32 0) := (blk_cell BK3.out 0).trans rfl; have hcz189_1 : w183.cell? ⟨gb3, 1, none⟩ = some (.int .i64 0) := (blk_cell BK3.out 1).trans rfl; have hcz189_2 : w183.cell? ⟨gb3, 2, none⟩ = some (.slice none 0 0) := (blk_cell BK3.out 2).trans rfl; have hcz189_3 : w183.cell? ⟨gb3, 3, none⟩ = some (.slice none 0 0) := (blk_cell BK3.out 3).trans rfl; have hcz189_4 : w183.cell? ⟨gb3, 4, none⟩ = some (.int .u32 0) := (blk_cell BK3.out 4).trans rfl; have hcz189_5 : w183.cell? ⟨gb3, 5, none⟩ = some (.int .u32 0) := (blk_cell BK3.out 5).trans rfl; have hcz189_6 : w183.cell? ⟨gb3, 6, none⟩ = some (.int .i64 0) := (blk_cell BK3.out 6).trans rfl; have hcz189_7 : w183.cell? ⟨gb3, 7, none⟩ = some (.int .u32 0) := (blk_cell BK3.out 7).trans rfl; have hfz189_0 := blk_frozen BK3.out 0; have hfz189_1 := blk_frozen BK3.out 1; have hfz189_2 := blk_frozen BK3.out 2; have hfz189_3 := blk_frozen BK3.out 3; have hfz189_4 := blk_frozen BK3.out 4; have hfz189_5 := blk_frozen BK3.out 5; have hfz189_6 := blk_frozen BK3.out 6; have hfz189_7 := blk_frozen BK3.out 7))
             refine bodyPost_ret (results_cell_row rfl _ _ gb3 30 #[.int .u32 t4, .int .i64 t5, .slice Ao15 t6.length co15, .slice Ao184 t43.length co184, .int .u32 t12, .int .u32 t13, .int .i64 t14, .int .u32 t15] (0, 0) _ rfl (bp8 BK3) Try.underlying30 rfl (by kernel_rfl)) rfl ?_
             exact ⟨_, _, by first | rfl | (simp [errW_none, errW_some] <;> rfl) | (simp [*, errW_none, errW_some] <;> rfl), by (with_reducible repeat (first | apply Kd.R_alloc | apply Kd.R_drewN | apply Kd.R_drew)); exact Kd.R_mono (Kd.R_far (p := ⟨gb3, 7, none⟩) (Kd.R_far (p := ⟨gb3, 6, none⟩) (Kd.R_far (p := ⟨gb3, 5, none⟩) (Kd.R_far (p := ⟨gb3, 4, none⟩) (Kd.R_far (p := ⟨gb3, 3, none⟩) (Kd.R_far (p := ⟨gb3, 2, none⟩) (Kd.R_far (p := ⟨gb3, 1, none⟩) (Kd.R_far (p := ⟨gb3, 0, none⟩) (Kd.R_far (p := ⟨gb2, 3, none⟩) (Kd.R_types (Kd.R_types HO_3002.out BK2.out (by decide)) BK3.out (by decide)) (fun _ hk => hk.1.2) (.slice Ao184 t43.length co184)) (fun _ hk => hk.2) (.int .u32 t4)) (fun _ hk => hk.2) (.int .i64 t5)) (fun _ hk => hk.2) (.slice Ao15 t6.length co15)) (fun _ hk => hk.2) (.slice Ao184 t43.length co184)) (fun _ hk => hk.2) (.int .u32 t12)) (fun _ hk => hk.2) (.int .u32 t13)) (fun _ hk => hk.2) (.int .i64 t14)) (fun _ hk => hk.2) (.int .u32 t15)) (fun _ hk => hk.1.1.2), by (with_reducible repeat (first | apply Kd.R_alloc | apply Kd.R_drewN | apply Kd.R_drew)); exact Kd.R_mono (Kd.R_far (p := ⟨gb3, 7, none⟩) (Kd.R_far (p := ⟨gb3, 6, none⟩) (Kd.R_far (p := ⟨gb3, 5, none⟩) (Kd.R_far (p := ⟨gb3, 4, none⟩) (Kd.R_far (p := ⟨gb3, 3, none⟩) (Kd.R_far (p := ⟨gb3, 2, none⟩) (Kd.R_far (p := ⟨gb3, 1, none⟩) (Kd.R_far (p := ⟨gb3, 0, none⟩) (Kd.R_far (p := ⟨gb2, 3, none⟩) (Kd.R_types (Kd.R_types HO45.out BK2.out (by decide)) BK3.out (by decide)) (fun _ hk => hk.1.2) (.slice Ao184 t43.length co184)) (fun _ hk => hk.2) (.int .u32 t4)) (fun _ hk => hk.2) (.int .i64 t5)) (fun _ hk => hk.2) (.slice Ao15 t6.length co15)) (fun _ hk => hk.2) (.slice Ao184 t43.length co184)) (fun _ hk => hk.2) (.int .u32 t12)) (fun _ hk => hk.2) (.int .u32 t13)) (fun _ hk => hk.2) (.int .i64 t14)) (fun _ hk => hk.2) (.int .u32 t15)) (fun _ hk => hk.1.1.1.2), hbW HB⟩
         ·
          rw [if_neg c144] at H
          have c144b0 : (a0_0 == 8) = false := beq_eq_false_iff_ne.mpr c144
          have c144b1 : (a0_0 != 8) = true := bne_iff_ne.mpr c144
          simp only [Option.some.injEq, Prod.mk.injEq] at H
          obtain ⟨rfl, rfl, rfl, rfl, rfl, rfl, rfl, rfl⟩ := H
          go_wp2
          refine bodyPost_ret (results_cell_row rfl _ _ gb3 30 #[.int .u32 t4, .int .i64 t5, .slice Ao15 t6.length co15, .slice Ao16 t9.length co16, .int .u32 t12, .int .u32 t13, .int .i64 t14, .int .u32 t15] (0, 0) _ rfl (bp8 BK3) Try.underlying30 rfl (by kernel_rfl)) rfl ?_
          exact ⟨_, _, by first | rfl | (simp [errW_none, errW_some] <;> rfl) | (simp [*, errW_none, errW_some] <;> rfl), by (with_reducible repeat (first | apply Kd.R_alloc | apply Kd.R_drewN | apply Kd.R_drew)); exact Kd.R_mono (Kd.R_far (p := ⟨gb3, 7, none⟩) (Kd.R_far (p := ⟨gb3, 6, none⟩) (Kd.R_far (p := ⟨gb3, 5, none⟩) (Kd.R_far (p := ⟨gb3, 4, none⟩) (Kd.R_far (p := ⟨gb3, 3, none⟩) (Kd.R_far (p := ⟨gb3, 2, none⟩) (Kd.R_far (p := ⟨gb3, 1, none⟩) (Kd.R_far (p := ⟨gb3, 0, none⟩) (Kd.R_types HO8.out BK3.out (by decide)) (fun _ hk => hk.2) (.int .u32 t4)) (fun _ hk => hk.2) (.int .i64 t5)) (fun _ hk => hk.2) (.slice Ao15 t6.length co15)) (fun _ hk => hk.2) (.slice Ao16 t9.length co16)) (fun _ hk => hk.2) (.int .u32 t12)) (fun _ hk => hk.2) (.int .u32 t13)) (fun _ hk => hk.2) (.int .i64 t14)) (fun _ hk => hk.2) (.int .u32 t15)) (fun _ hk => hk.1), by (with_reducible repeat (first | apply Kd.R_alloc | apply Kd.R_drewN | apply Kd.R_drew)); exact Kd.R_mono (Kd.R_far (p := ⟨gb3, 7, none⟩) (Kd.R_far (p := ⟨gb3, 6, none⟩) (Kd.R_far (p := ⟨gb3, 5, none⟩) (Kd.R_far (p := ⟨gb3, 4, none⟩) (Kd.R_far (p := ⟨gb3, 3, none⟩) (Kd.R_far (p := ⟨gb3, 2, none⟩) (Kd.R_far (p := ⟨gb3, 1, none⟩) (Kd.R_far (p := ⟨gb3, 0, none⟩) (Kd.R_types HO11.out BK3.out (by decide)) (fun _ hk => hk.2) (.int .u32 t4)) (fun _ hk => hk.2) (.int .i64 t5)) (fun _ hk => hk.2) (.slice Ao15 t6.length co15)) (fun _ hk => hk.2) (.slice Ao16 t9.length co16)) (fun _ hk => hk.2) (.int .u32 t12)) (fun _ hk => hk.2) (.int .u32 t13)) (fun _ hk => hk.2) (.int .i64 t14)) (fun _ hk => hk.2) (.int .u32 t15)) (fun _ hk => hk.1), hbW HB⟩
 ·
  replace c5 := Bool.eq_false_iff.mpr c5
  subst c5
  have H1 : (some (t4, t5, t6, t9, t12, t13, t14, t15)) = some (r1, r2, r3, r4, r5, r6, r7, r8) := by rw [if_neg (show ¬ (false = true) by decide)] at H; exact H
  clear H
  have H := H1
  clear H1
  simp only [Option.some.injEq, Prod.mk.injEq] at H
  obtain ⟨rfl, rfl, rfl, rfl, rfl, rfl, rfl, rfl⟩ := H
  go_enter Try.func17, Try.ntmps17
  go_wp2_with (first | ((with_reducible refine gate_dst (N := 2) rfl ?_); refine box_event ?hg (N := 2) ?hd (cs := #[.int .i64 a0_0, .int .u32 a0_1, .slice A0_2 l0_2.length c0_2, .slice A0_3 l0_3.length c0_3]) (t := 26) ?hr ?_; (case hd => rfl); (case hg => rfl); (case hr => first | (go_simp; done) | (go_simp; rfl)); intro gb1 hg w206 hbox hb; have n0_ := hbS HB hb; have n1_ := Aside0.mk (hbox); have n2_ := Aside0.mk ((by rw [hg]; exact (below_size (hbW HB)) : w.heap.size ≤ gb1)); have n3_ := Aside0.mk ((by rw [hg]; exact (below_size (hbW HB)) : w.heap.size ≤ gb1)); clear HB; have HB := n0_; have BK1 := n1_; have GW1 := n2_; have GE1 := n3_; clear n0_ n1_ n2_ n3_; clear hb hbox hg) | ((with_reducible refine gate_dst (N := 3) rfl ?_); refine box_event ?hg (N := 3) ?hd (cs := #[.int .u32 a1_0, .int .i64 a1_1, .slice A1_2 l1_2.length c1_2, .slice A1_3 l1_3.length c1_3, .int .u32 a1_4, .int .u32 a1_5, .int .i64 a1_6, .int .u32 a1_7]) (t := 30) ?hr ?_; (case hd => rfl); (case hg => rfl); (case hr => first | (go_simp; done) | (go_simp; rfl)); intro gb2 hg w207 hbox hb; have n0_ := bkB BK1 hb; have n1_ := hbS HB hb; have n2_ := Aside0.mk (hbox); have n3_ := Aside0.mk ((by rw [hg]; exact (below_size (hbW HB)) : w.heap.size ≤ gb2)); have n4_ := Aside0.mk ((by rw [hg]; exact (below_size (hbW HB)) : w.heap.size ≤ gb2)); have n5_ := Aside0.mk ((by rw [hg]; exact Nat.ne_of_lt (blk_lt (bkW BK1)) : gb1 ≠ gb2)); have n6_ := Aside0.mk ((by rw [hg]; exact Nat.ne_of_gt (blk_lt (bkW BK1)) : gb2 ≠ gb1)); clear BK1; clear HB; have BK1 := n0_; have HB := n1_; have BK2 := n2_; have GW2 := n3_; have GE2 := n4_; have NB1_2 := n5_; have NB2_1 := n6_; clear n0_ n1_ n2_ n3_ n4_ n5_ n6_; clear hb hbox hg) | ((with_reducible refine gate_dst (N := 4) rfl ?_); refine box_event ?hg (N := 4) ?hd (cs := #[.int .u32 0, .int .i64 0, .slice none 0 0, .slice none 0 0, .int .u32 0, .int .u32 0, .int .i64 0, .int .u32 0]) (t := 30) ?hr ?_; (case hd => rfl); (case hg => rfl); (case hr => first | (go_simp; done) | (go_simp; rfl)); intro gb3 hg w208 hbox hb; have n0_ := bkB BK1 hb; have n1_ := bkB BK2 hb; have n2_ := hbS HB hb; have n3_ := Aside0.mk (hbox); have n4_ := Aside0.mk ((by rw [hg]; exact (below_size (hbW HB)) : w.heap.size ≤ gb3)); have n5_ := Aside0.mk ((by rw [hg]; exact (below_size (hbW HB)) : w.heap.size ≤ gb3)); have n6_ := Aside0.mk ((by rw [hg]; exact Nat.ne_of_lt (blk_lt (bkW BK1)) : gb1 ≠ gb3)); have n7_ := Aside0.mk ((by rw [hg]; exact Nat.ne_of_gt (blk_lt (bkW BK1)) : gb3 ≠ gb1)); have n8_ := Aside0.mk ((by rw [hg]; exact Nat.ne_of_lt (blk_lt (bkW BK2)) : gb2 ≠ gb3)); have n9_ := Aside0.mk ((by rw [hg]; exact Nat.ne_of_gt (blk_lt (bkW BK2)) : gb3 ≠ gb2)); clear BK1; clear BK2; clear HB; have BK1 := n0_; have BK2 := n1_; have HB := n2_; have BK3 := n3_; have GW3 := n4_; have GE3 := n5_; have NB1_3 := n6_; have NB3_1 := n7_; have NB2_3 := n8_; have NB3_2 := n9_; clear n0_ n1_ n2_ n3_ n4_ n5_ n6_ n7_ n8_ n9_; clear hb hbox hg; have hnb209 := NB2_1.out; have hnc209 := NB1_2.out; have hnb210 := NB2_3.out; have hnc210 := NB3_2.out; have hcz211_0 : w208.cell? ⟨gb2, 0, none⟩ = some (.int .u32 a1_0) := (blk_cell BK2.out 0).trans rfl; have hcz211_1 : w208.cell? ⟨gb2, 1, none⟩ = some (.int .i64 a1_1) := (blk_cell BK2.out 1).trans rfl; have hcz211_2 : w208.cell? ⟨gb2, 2, none⟩ = some (.slice A1_2 l1_2.length c1_2) := (blk_cell BK2.out 2).trans rfl; have hcz211_3 : w208.cell? ⟨gb2, 3, none⟩ = some (.slice A1_3 l1_3.length c1_3) := (blk_cell BK2.out 3).trans rfl; have hcz211_4 : w208.cell? ⟨gb2, 4, none⟩ = some (.int .u32 a1_4) := (blk_cell BK2.out 4).trans rfl; have hcz211_5 : w208.cell? ⟨gb2, 5, none⟩ = some (.int .u32 a1_5) := (blk_cell BK2.out 5).trans rfl; have hcz211_6 : w208.cell? ⟨gb2, 6, none⟩ = some (.int .i64 a1_6) := (blk_cell BK2.out 6).trans rfl; have hcz211_7 : w208.cell? ⟨gb2, 7, none⟩ = some (.int .u32 a1_7) := (blk_cell BK2.out 7).trans rfl; have hfz211_0 := blk_frozen BK2.out 0; have hfz211_1 := blk_frozen BK2.out 1; have hfz211_2 := blk_frozen BK2.out 2; have hfz211_3 := blk_frozen BK2.out 3; have hfz211_4 := blk_frozen BK2.out 4; have hfz211_5 := blk_frozen BK2.out 5; have hfz211_6 := blk_frozen BK2.out 6; have hfz211_7 := blk_frozen BK2.out 7) | ((with_reducible refine gate_callee (f := 12) rfl ?_); refine goesL_ (some 9) rfl rfl Try.func12 (by kernel_rfl) rfl #[.agg #[.int .u32 a1_0, .int .i64 a1_1, .slice A1_2 l1_2.length c1_2, .slice A1_3 l1_3.length c1_3, .int .u32 a1_4, .int .u32 a1_5, .int .i64 a1_6, .int .u32 a1_7]] rfl (by (try simp only [List.map_toArray, List.map_cons, List.map_nil]); first | done | rfl | (simp only [List.length_drop, List.length_take]; rfl)) ?_; (with_reducible refine (q2z.calls a1_0 a1_1 _ _ l1_2 _ _ l1_3 a1_4 a1_5 a1_6 a1_7 t4 t5 t6 t9 t12 t13 t14 t15 _ ?side1 ?side2 ?side3 ?side4 A3.out).mono ?_); (case side1 => repeat (first | exact (Kd.C_below HR1_2.out HB.out) | (with_reducible refine Kd.C_alloc ?_ _) | (with_reducible refine Kd.C_drewN ?_ _) | (with_reducible refine Kd.C_drew ?_))); (case side2 => exact HC1_2.out); (case side3 => repeat (first | exact (Kd.C_below HR1_3.out HB.out) | (with_reducible refine Kd.C_alloc ?_ _) | (with_reducible refine Kd.C_drewN ?_ _) | (with_reducible refine Kd.C_drew ?_))); (case side4 => exact HC1_3.out); rintro e w212 ⟨v7, v10, rfl, ho0, ho1, hb⟩; refine ⟨_, rfl, ?_⟩; have n0_ := Aside0.mk (Kd.R_lower ho0 (below_size (hbW HB))); have n1_ := Aside0.mk (Kd.R_lower ho1 (below_size (hbW HB))); have n2_ := bkB BK1 hb; have n3_ := bkB BK2 hb; have n4_ := bkB BK3 hb; have n5_ := hbS HB hb; clear BK1; clear BK2; clear BK3; clear HB; have HO8 := n0_; have HO11 := n1_; have BK1 := n2_; have BK2 := n3_; have BK3 := n4_; have HB := n5_; clear n0_ n1_ n2_ n3_ n4_ n5_; (try clear hb); (try clear hb2); (try clear hk); (try clear hi); (try clear ho0); (try clear ho1); have hcz213_0 : w212.cell? ⟨gb2, 0, none⟩ = some (.int .u32 a1_0) := (blk_cell BK2.out 0).trans rfl; have hcz213_1 : w212.cell? ⟨gb2, 1, none⟩ = some (.int .i64 a1_1) := (blk_cell BK2.out 1).trans rfl; have hcz213_2 : w212.cell? ⟨gb2, 2, none⟩ = some (.slice A1_2 l1_2.length c1_2) := (blk_cell BK2.out 2).trans rfl; have hcz213_3 : w212.cell? ⟨gb2, 3, none⟩ = some (.slice A1_3 l1_3.length c1_3) := (blk_cell BK2.out 3).trans rfl; have hcz213_4 : w212.cell? ⟨gb2, 4, none⟩ = some (.int .u32 a1_4) := (blk_cell BK2.out 4).trans rfl; have hcz213_5 : w212.cell? ⟨gb2, 5, none⟩ = some (.int .u32 a1_5) := (blk_cell BK2.out 5).trans rfl; have hcz213_6 : w212.cell? ⟨gb2, 6, none⟩ = some (.int .i64 a1_6) := (blk_cell BK2.out 6).trans rfl; have hcz213_7 : w212.cell? ⟨gb2, 7, none⟩ = some (.int .u32 a1_7) := (blk_cell BK2.out 7).trans rfl; have hfz213_0 := blk_frozen BK2.out 0; have hfz213_1 := blk_frozen BK2.out 1; have hfz213_2 := blk_frozen BK2.out 2; have hfz213_3 := blk_frozen BK2.out 3; have hfz213_4 := blk_frozen BK2.out 4; have hfz213_5 := blk_frozen BK2.out 5; have hfz213_6 := blk_frozen BK2.out 6; have hfz213_7 := blk_frozen BK2.out 7; obtain ⟨Ao214, co214, eo214⟩ := Kd.R_slice HO8.out; subst eo214; obtain ⟨Ao215, co215, eo215⟩ := Kd.R_slice HO11.out; subst eo215; have hnb216 := NB1_3.out; have hnc216 := NB3_1.out; have hcz217_0 : w212.cell? ⟨gb1, 0, none⟩ = some (.int .i64 a0_0) := (blk_cell BK1.out 0).trans rfl; have hcz217_1 : w212.cell? ⟨gb1, 1, none⟩ = some (.int .u32 a0_1) := (blk_cell BK1.out 1).trans rfl; have hcz217_2 : w212.cell? ⟨gb1, 2, none⟩ = some (.slice A0_2 l0_2.length c0_2) := (blk_cell BK1.out 2).trans rfl; have hcz217_3 : w212.cell? ⟨gb1, 3, none⟩ = some (.slice A0_3 l0_3.length c0_3) := (blk_cell BK1.out 3).trans rfl; have hfz217_0 := blk_frozen BK1.out 0; have hfz217_1 := blk_frozen BK1.out 1; have hfz217_2 := blk_frozen BK1.out 2; have hfz217_3 := blk_frozen BK1.out 3) | ((with_reducible refine gate_callee (f := 15) rfl ?_); refine goesL_ (some 11) rfl rfl Try.func15 (by kernel_rfl) rfl #[.agg #[.int .i64 a0_0, .int .u32 a0_1, .slice A0_2 l0_2.length c0_2, .slice A0_3 l0_3.length c0_3]] rfl (by (try simp only [List.map_toArray, List.map_cons, List.map_nil]); first | done | rfl | (simp only [List.length_drop, List.length_take]; rfl)) ?_; (with_reducible refine (q15z.calls k a0_0 a0_1 _ _ l0_2 _ _ l0_3 false _ ?side1 ?side2 ?side3 ?side4 A4.out).mono ?_); (case side1 => exact Kd.C_below HR0_2.out (hbW HB)); (case side2 => exact HC0_2.out); (case side3 => exact Kd.C_below HR0_3.out (hbW HB)); (case side4 => exact HC0_3.out); rintro e w218 ⟨rfl, hb⟩; refine ⟨_, rfl, ?_⟩; have n0_ := Aside0.mk (Kd.R_below (rW HO8) hb); have n1_ := Aside0.mk (Kd.R_below (rW HO11) hb); have n2_ := Aside0.mk (blk_below (g := gb1) (o := .cells #[.int .i64 a0_0, .int .u32 a0_1, .slice A0_2 l0_2.length c0_2, .slice A0_3 l0_3.length c0_3] 26 (0, 0)) (by (with_reducible repeat (first | refine blk_drewN ?_ _ | refine blk_drew ?_ | refine blk_alloc ?_ _)); refine blk_far ?_ NB1_2.out _; (with_reducible repeat (first | refine blk_drewN ?_ _ | refine blk_drew ?_ | refine blk_alloc ?_ _)); refine blk_far ?_ NB1_2.out _; (with_reducible repeat (first | refine blk_drewN ?_ _ | refine blk_drew ?_ | refine blk_alloc ?_ _)); refine blk_far ?_ NB1_2.out _; (with_reducible repeat (first | refine blk_drewN ?_ _ | refine blk_drew ?_ | refine blk_alloc ?_ _)); refine blk_far ?_ NB1_2.out _; (with_reducible repeat (first | refine blk_drewN ?_ _ | refine blk_drew ?_ | refine blk_alloc ?_ _)); refine blk_far ?_ NB1_2.out _; (with_reducible repeat (first | refine blk_drewN ?_ _ | refine blk_drew ?_ | refine blk_alloc ?_ _)); refine blk_far ?_ NB1_2.out _; (with_reducible repeat (first | refine blk_drewN ?_ _ | refine blk_drew ?_ | refine blk_alloc ?_ _)); refine blk_far ?_ NB1_2.out _; (with_reducible repeat (first | refine blk_drewN ?_ _ | refine blk_drew ?_ | refine blk_alloc ?_ _)); refine blk_far ?_ NB1_2.out _; (with_reducible repeat (first | refine blk_drewN ?_ _ | refine blk_drew ?_ | refine blk_alloc ?_ _)); exact BK1.out) hb); have n3_ := Aside0.mk (blk_below (g := gb2) (o := .cells #[.int .u32 t4, .int .i64 t5, .slice Ao214 t6.length co214, .slice Ao215 t9.length co215, .int .u32 t12, .int .u32 t13, .int .i64 t14, .int .u32 t15] 30 (0, 0)) (bp8 BK2) hb); have n4_ := Aside0.mk (blk_below (g := gb3) (o := .cells #[.int .u32 0, .int .i64 0, .slice none 0 0, .slice none 0 0, .int .u32 0, .int .u32 0, .int .i64 0, .int .u32 0] 30 (0, 0)) (by (with_reducible repeat (first | refine blk_drewN ?_ _ | refine blk_drew ?_ | refine blk_alloc ?_ _)); refine blk_far ?_ NB3_2.out _; (with_reducible repeat (first | refine blk_drewN ?_ _ | refine blk_drew ?_ | refine blk_alloc ?_ _)); refine blk_far ?_ NB3_2.out _; (with_reducible repeat (first | refine blk_drewN ?_ _ | refine blk_drew ?_ | refine blk_alloc ?_ _)); refine blk_far ?_ NB3_2.out _; (with_reducible repeat (first | refine blk_drewN ?_ _ | refine blk_drew ?_ | refine blk_alloc ?_ _)); refine blk_far ?_ NB3_2.out _; (with_reducible repeat (first | refine blk_drewN ?_ _ | refine blk_drew ?_ | refine blk_alloc ?_ _)); refine blk_far ?_ NB3_2.out _; (with_reducible repeat (first | refine blk_drewN ?_ _ | refine blk_drew ?_ | refine blk_alloc ?_ _)); refine blk_far ?_ NB3_2.out _; (with_reducible repeat (first | refine blk_drewN ?_ _ | refine blk_drew ?_ | refine blk_alloc ?_ _)); refine blk_far ?_ NB3_2.out _; (with_reducible repeat (first | refine blk_drewN ?_ _ | refine blk_drew ?_ | refine blk_alloc ?_ _)); refine blk_far ?_ NB3_2.out _; (with_reducible repeat (first | refine blk_drewN ?_ _ | refine blk_drew ?_ | refine blk_alloc ?_ _)); exact BK3.out) hb); have n5_ := hbS HB hb; clear HO8; clear HO11; clear BK1; clear BK2; clear BK3; clear HB; have HO8 := n0_; have HO11 := n1_; have BK1 := n2_; have BK2 := n3_; have BK3 := n4_; have HB := n5_; clear n0_ n1_ n2_ n3_ n4_ n5_; (try clear hb); (try clear hb2); (try clear hk); (try clear hi); have hcz219_0 : w218.cell? ⟨gb2, 0, none⟩ = some (.int .u32 t4) := (blk_cell BK2.out 0).trans rfl; have hcz219_1 : w218.cell? ⟨gb2, 1, none⟩ = some (.int .i64 t5) := (blk_cell BK2.out 1).trans rfl; have hcz219_2 : w218.cell? ⟨gb2, 2, none⟩ = some (.slice Ao214 t6.length co214) := (blk_cell BK2.out 2).trans rfl; have hcz219_3 : w218.cell? ⟨gb2, 3, none⟩ = some (.slice Ao215 t9.length co215) := (blk_cell BK2.out 3).trans rfl; have hcz219_4 : w218.cell? ⟨gb2, 4, none⟩ = some (.int .u32 t12) := (blk_cell BK2.out 4).trans rfl; have hcz219_5 : w218.cell? ⟨gb2, 5, none⟩ = some (.int .u32 t13) := (blk_cell BK2.out 5).trans rfl; have hcz219_6 : w218.cell? ⟨gb2, 6, none⟩ = some (.int .i64 t14) := (blk_cell BK2.out 6).trans rfl; have hcz219_7 : w218.cell? ⟨gb2, 7, none⟩ = some (.int .u32 t15) := (blk_cell BK2.out 7).trans rfl; have hfz219_0 := blk_frozen BK2.out 0; have hfz219_1 := blk_frozen BK2.out 1; have hfz219_2 := blk_frozen BK2.out 2; have hfz219_3 := blk_frozen BK2.out 3; have hfz219_4 := blk_frozen BK2.out 4; have hfz219_5 := blk_frozen BK2.out 5; have hfz219_6 := blk_frozen BK2.out 6; have hfz219_7 := blk_frozen BK2.out 7; have hcz220_0 : w218.cell? ⟨gb3, 0, none⟩ = some (.int .u32 0) := (blk_cell BK3.out 0).trans rfl; have hcz220_1 : w218.cell? ⟨gb3, 1, none⟩ = some (.int .i64 0) := (blk_cell BK3.out 1).trans rfl; have hcz220_2 : w218.cell? ⟨gb3, 2, none⟩ = some (.slice none 0 0) := (blk_cell BK3.out 2).trans rfl; have hcz220_3 : w218.cell? ⟨gb3, 3, none⟩ = some (.slice none 0 0) := (blk_cell BK3.out 3).trans rfl; have hcz220_4 : w218.cell? ⟨gb3, 4, none⟩ = some (.int .u32 0) := (blk_cell BK3.out 4).trans rfl; have hcz220_5 : w218.cell? ⟨gb3, 5, none⟩ = some (.int .u32 0) := (blk_cell BK3.out 5).trans rfl; have hcz220_6 : w218.cell? ⟨gb3, 6, none⟩ = some (.int .i64 0) := (blk_cell BK3.out 6).trans rfl; have hcz220_7 : w218.cell? ⟨gb3, 7, none⟩ = some (.int .u32 0) := (blk_cell BK3.out 7).trans rfl; have hfz220_0 := blk_frozen BK3.out 0; have hfz220_1 := blk_frozen BK3.out 1; have hfz220_2 := blk_frozen BK3.out 2; have hfz220_3 := blk_frozen BK3.out 3; have hfz220_4 := blk_frozen BK3.out 4; have hfz220_5 := blk_frozen BK3.out 5; have hfz220_6 := blk_frozen BK3.out 6; have hfz220_7 := blk_frozen BK3.out 7))
  refine bodyPost_ret (results_cell_row rfl _ _ gb3 30 #[.int .u32 t4, .int .i64 t5, .slice Ao214 t6.length co214, .slice Ao215 t9.length co215, .int .u32 t12, .int .u32 t13, .int .i64 t14, .int .u32 t15] (0, 0) _ rfl (bp8 BK3) Try.underlying30 rfl (by kernel_rfl)) rfl ?_
  exact ⟨_, _, by first | rfl | (simp [errW_none, errW_some] <;> rfl) | (simp [*, errW_none, errW_some] <;> rfl), by (with_reducible repeat (first | apply Kd.R_alloc | apply Kd.R_drewN | apply Kd.R_drew)); exact Kd.R_mono (Kd.R_far (p := ⟨gb3, 7, none⟩) (Kd.R_far (p := ⟨gb3, 6, none⟩) (Kd.R_far (p := ⟨gb3, 5, none⟩) (Kd.R_far (p := ⟨gb3, 4, none⟩) (Kd.R_far (p := ⟨gb3, 3, none⟩) (Kd.R_far (p := ⟨gb3, 2, none⟩) (Kd.R_far (p := ⟨gb3, 1, none⟩) (Kd.R_far (p := ⟨gb3, 0, none⟩) (Kd.R_types HO8.out BK3.out (by decide)) (fun _ hk => hk.2) (.int .u32 t4)) (fun _ hk => hk.2) (.int .i64 t5)) (fun _ hk => hk.2) (.slice Ao214 t6.length co214)) (fun _ hk => hk.2) (.slice Ao215 t9.length co215)) (fun _ hk => hk.2) (.int .u32 t12)) (fun _ hk => hk.2) (.int .u32 t13)) (fun _ hk => hk.2) (.int .i64 t14)) (fun _ hk => hk.2) (.int .u32 t15)) (fun _ hk => hk.1), by (with_reducible repeat (first | apply Kd.R_alloc | apply Kd.R_drewN | apply Kd.R_drew)); exact Kd.R_mono (Kd.R_far (p := ⟨gb3, 7, none⟩) (Kd.R_far (p := ⟨gb3, 6, none⟩) (Kd.R_far (p := ⟨gb3, 5, none⟩) (Kd.R_far (p := ⟨gb3, 4, none⟩) (Kd.R_far (p := ⟨gb3, 3, none⟩) (Kd.R_far (p := ⟨gb3, 2, none⟩) (Kd.R_far (p := ⟨gb3, 1, none⟩) (Kd.R_far (p := ⟨gb3, 0, none⟩) (Kd.R_types HO11.out BK3.out (by decide)) (fun _ hk => hk.2) (.int .u32 t4)) (fun _ hk => hk.2) (.int .i64 t5)) (fun _ hk => hk.2) (.slice Ao214 t6.length co214)) (fun _ hk => hk.2) (.slice Ao215 t9.length co215)) (fun _ hk => hk.2) (.int .u32 t12)) (fun _ hk => hk.2) (.int .u32 t13)) (fun _ hk => hk.2) (.int .i64 t14)) (fun _ hk => hk.2) (.int .u32 t15)) (fun _ hk => hk.1), hbW HB⟩

end Go.Proofs.Ytgelpccjdndfoaa.P

namespace Go.Proofs.Ytgelpccjdndfoaa.P
open Go.RowKit Go.Proofs.YtgelpccjdndfoaaW.PrintWords Go.Proofs.YtgelpccjdndfoaaW.PrintLast Go.Proofs.YtgelpccjdndfoaaW.PrintMore
attribute [local go_sem] max2_int min2_int max_two min_two max_three min_three max_four min_four
set_option linter.unusedVariables false
set_option linter.unusedSimpArgs false

/-! ### dragomanref12_All: function 23 -/
def q21z.l0 : Nat → List (S26) → Int → Int → Int → Int → List Int → List Int → Int → Int → Int → Int → Option (Int × Int × List Int × List Int × Int × Int × Int × Int)
 | 0, _, _, _, _, _, _, _, _, _, _, _ => none
 | k + 1, x9, x10, x11, x2000, x2001, x2002, x2003, x2004, x2005, x2006, x2007 => if x11 < x10 then (if 0 ≤ x11 then (if x11 < (x9.length : Int) then ((q20z.f k ((rd_T26 x9 x11).f0) ((rd_T26 x9 x11).f1) ((rd_T26 x9 x11).f2) ((rd_T26 x9 x11).f3) x2000 x2001 x2002 x2003 x2004 x2005 x2006 x2007).bind fun bt17 => (q21z.l0 k x9 x10 (wrap64 (x11 + 1)) bt17.1 bt17.2.1 bt17.2.2.1 bt17.2.2.2.1 bt17.2.2.2.2.1 bt17.2.2.2.2.2.1 bt17.2.2.2.2.2.2.1 bt17.2.2.2.2.2.2.2)) else (none)) else (none)) else (some (x2000, x2001, x2002, x2003, x2004, x2005, x2006, x2007))
def q21z.f (k : Nat) (l0 : List (S26)) (a1_0 : Int) (a1_1 : Int) (l1_2 : List Int) (l1_3 : List Int) (a1_4 : Int) (a1_5 : Int) (a1_6 : Int) (a1_7 : Int) : Option (Int × Int × List Int × List Int × Int × Int × Int × Int) := (q2z.f a1_0 a1_1 l1_2 l1_3 a1_4 a1_5 a1_6 a1_7).bind fun bt3 => (q21z.l0 k l0 (l0.length : Int) 0 bt3.1 bt3.2.1 bt3.2.2.1 bt3.2.2.2.1 bt3.2.2.2.2.1 bt3.2.2.2.2.2.1 bt3.2.2.2.2.2.2.1 bt3.2.2.2.2.2.2.2)
theorem q21z.mono_l : ∀ k, (∀ y0 y1 y2 y3 y4 y5 y6 y7 y8 y9 y10, LeO (q21z.l0 k y0 y1 y2 y3 y4 y5 y6 y7 y8 y9 y10) (q21z.l0 (k + 1) y0 y1 y2 y3 y4 y5 y6 y7 y8 y9 y10))
 | 0 => fun _ _ _ _ _ _ _ _ _ _ _ r h => by simp [q21z.l0] at h
 | k + 1 => by
  have ih0 := q21z.mono_l k
  ·
   intro y0 y1 y2 y3 y4 y5 y6 y7 y8 y9 y10
   unfold q21z.l0
   repeat' first
   | (with_reducible exact ih0 _ _ _ _ _ _ _ _ _ _ _)
   | (with_reducible exact q20z.mono _ _ _ _ _ _ _ _ _ _ _ _ _)
   | (with_reducible exact LeO.refl _)
   | (with_reducible exact LeO.none _)
   | (with_reducible refine LeO.ite ?_ ?_)
   | (with_reducible refine LeO.bind ?_ (fun _ => ?_))
   | exact ih0 _ _ _ _ _ _ _ _ _ _ _
   | exact q20z.mono _ _ _ _ _ _ _ _ _ _ _ _ _
   | exact LeO.none _
   | refine LeO.ite ?_ ?_
   | refine LeO.bind ?_ (fun _ => ?_)
theorem q21z.mono : ∀ a0 a1 a2 a3 a4 a5 a6 a7 a8 k, LeO (q21z.f k a0 a1 a2 a3 a4 a5 a6 a7 a8) (q21z.f (k + 1) a0 a1 a2 a3 a4 a5 a6 a7 a8) := by
 intro a0 a1 a2 a3 a4 a5 a6 a7 a8 k
 have ih0 := q21z.mono_l k
 unfold q21z.f
 repeat' first
   | (with_reducible exact ih0 _ _ _ _ _ _ _ _ _ _ _)
   | (with_reducible exact q20z.mono _ _ _ _ _ _ _ _ _ _ _ _ _)
   | (with_reducible exact LeO.refl _)
   | (with_reducible exact LeO.none _)
   | (with_reducible refine LeO.ite ?_ ?_)
   | (with_reducible refine LeO.bind ?_ (fun _ => ?_))
   | exact ih0 _ _ _ _ _ _ _ _ _ _ _
   | exact q20z.mono _ _ _ _ _ _ _ _ _ _ _ _ _
   | exact LeO.none _
   | refine LeO.ite ?_ ?_
   | refine LeO.bind ?_ (fun _ => ?_)
set_option maxHeartbeats 8000000 in
set_option maxRecDepth 100000 in
theorem q21z.calls (k : Nat) (A0 : Option Addr) (c0 : Nat) (l0 : List (S26)) (a1_0 : Int) (a1_1 : Int) (A1_2 : Option Addr) (c1_2 : Nat) (l1_2 : List Int) (A1_3 : Option Addr) (c1_3 : Nat) (l1_3 : List Int) (a1_4 : Int) (a1_5 : Int) (a1_6 : Int) (a1_7 : Int) (r1 : Int) (r2 : Int) (r3 : List Int) (r4 : List Int) (r5 : Int) (r6 : Int) (r7 : Int) (r8 : Int) (w : World) (hr0 : Kd.C k26 w A0 l0.length l0) (hc0 : l0.length ≤ c0) (hr1_2 : Kd.C (Kd.int .u32) w A1_2 l1_2.length l1_2) (hc1_2 : l1_2.length ≤ c1_2) (hr1_3 : Kd.C (Kd.int .u32) w A1_3 l1_3.length l1_3) (hc1_3 : l1_3.length ≤ c1_3) (h : q21z.f k l0 a1_0 a1_1 l1_2 l1_3 a1_4 a1_5 a1_6 a1_7 = some (r1, r2, r3, r4, r5, r6, r7, r8)) :
  Calls Try.prog 23 #[.slice A0 l0.length c0, .agg #[.int .u32 a1_0, .int .i64 a1_1, .slice A1_2 l1_2.length c1_2, .slice A1_3 l1_3.length c1_3, .int .u32 a1_4, .int .u32 a1_5, .int .i64 a1_6, .int .u32 a1_7]] w fun e w' => ∃ v2_ v3_ : Value, e = .returned (.agg #[.int .u32 r1, .int .i64 r2, v2_, v3_, .int .u32 r5, .int .u32 r6, .int .i64 r7, .int .u32 r8]) ∧ Kd.R (Kd.int .u32) 22 w' w.heap.size (fun k_ => some k_ ≠ (v3_ : Value).ownBlock) v2_ r3 ∧ Kd.R (Kd.int .u32) 22 w' w.heap.size (fun k_ => some k_ ≠ (v2_ : Value).ownBlock) v3_ r4 ∧ Below w.heap.size w w' := by
 have hu30 := Try.underlying30
 have hu26 := Try.underlying26
 have HR0 := Aside0.mk hr0
 have HC0 := Aside0.mk hc0
 clear hr0 hc0
 have HR1_2 := Aside0.mk hr1_2
 have HC1_2 := Aside0.mk hc1_2
 clear hr1_2 hc1_2
 have HR1_3 := Aside0.mk hr1_3
 have HC1_3 := Aside0.mk hc1_3
 clear hr1_3 hc1_3
 have HB := Aside0.mk (Below.refl w.heap.size w)
 have H : ((q2z.f a1_0 a1_1 l1_2 l1_3 a1_4 a1_5 a1_6 a1_7).bind fun bt3 => (q21z.l0 k l0 (l0.length : Int) 0 bt3.1 bt3.2.1 bt3.2.2.1 bt3.2.2.2.1 bt3.2.2.2.2.1 bt3.2.2.2.2.2.1 bt3.2.2.2.2.2.2.1 bt3.2.2.2.2.2.2.2)) = some (r1, r2, r3, r4, r5, r6, r7, r8) := h
 clear h
 replace H := Option.bind_eq_some_iff.mp H
 obtain ⟨⟨t3, t4, t5, t8, t11, t12, t13, t14⟩, A30, H⟩ := H
 replace H : (q21z.l0 k l0 (l0.length : Int) 0 t3 t4 t5 t8 t11 t12 t13 t14) = some (r1, r2, r3, r4, r5, r6, r7, r8) := H
 have A3 := Aside0.mk A30
 clear A30
 have H' := Aside0.mk H
 clear H
 go_enter Try.func23, Try.ntmps23
 go_wp2_with (first | ((with_reducible refine gate_dst (N := 3) rfl ?_); refine box_event ?hg (N := 3) ?hd (cs := #[.int .u32 a1_0, .int .i64 a1_1, .slice A1_2 l1_2.length c1_2, .slice A1_3 l1_3.length c1_3, .int .u32 a1_4, .int .u32 a1_5, .int .i64 a1_6, .int .u32 a1_7]) (t := 30) ?hr ?_; (case hd => rfl); (case hg => rfl); (case hr => first | (go_simp; done) | (go_simp; rfl)); intro gb1 hg w4 hbox hb; have n0_ := hbS HB hb; have n1_ := Aside0.mk (hbox); have n2_ := Aside0.mk ((by rw [hg]; exact (below_size (hbW HB)) : w.heap.size ≤ gb1)); have n3_ := Aside0.mk ((by rw [hg]; exact (below_size (hbW HB)) : w.heap.size ≤ gb1)); clear HB; have HB := n0_; have BK1 := n1_; have GW1 := n2_; have GE1 := n3_; clear n0_ n1_ n2_ n3_; clear hb hbox hg) | ((with_reducible refine gate_dst (N := 4) rfl ?_); refine box_event ?hg (N := 4) ?hd (cs := #[.int .u32 0, .int .i64 0, .slice none 0 0, .slice none 0 0, .int .u32 0, .int .u32 0, .int .i64 0, .int .u32 0]) (t := 30) ?hr ?_; (case hd => rfl); (case hg => rfl); (case hr => first | (go_simp; done) | (go_simp; rfl)); intro gb2 hg w5 hbox hb; have n0_ := bkB BK1 hb; have n1_ := hbS HB hb; have n2_ := Aside0.mk (hbox); have n3_ := Aside0.mk ((by rw [hg]; exact (below_size (hbW HB)) : w.heap.size ≤ gb2)); have n4_ := Aside0.mk ((by rw [hg]; exact (below_size (hbW HB)) : w.heap.size ≤ gb2)); have n5_ := Aside0.mk ((by rw [hg]; exact Nat.ne_of_lt (blk_lt (bkW BK1)) : gb1 ≠ gb2)); have n6_ := Aside0.mk ((by rw [hg]; exact Nat.ne_of_gt (blk_lt (bkW BK1)) : gb2 ≠ gb1)); clear BK1; clear HB; have BK1 := n0_; have HB := n1_; have BK2 := n2_; have GW2 := n3_; have GE2 := n4_; have NB1_2 := n5_; have NB2_1 := n6_; clear n0_ n1_ n2_ n3_ n4_ n5_ n6_; clear hb hbox hg; have hnb6 := NB1_2.out; have hnc6 := NB2_1.out; have hcz7_0 : w5.cell? ⟨gb1, 0, none⟩ = some (.int .u32 a1_0) := (blk_cell BK1.out 0).trans rfl; have hcz7_1 : w5.cell? ⟨gb1, 1, none⟩ = some (.int .i64 a1_1) := (blk_cell BK1.out 1).trans rfl; have hcz7_2 : w5.cell? ⟨gb1, 2, none⟩ = some (.slice A1_2 l1_2.length c1_2) := (blk_cell BK1.out 2).trans rfl; have hcz7_3 : w5.cell? ⟨gb1, 3, none⟩ = some (.slice A1_3 l1_3.length c1_3) := (blk_cell BK1.out 3).trans rfl; have hcz7_4 : w5.cell? ⟨gb1, 4, none⟩ = some (.int .u32 a1_4) := (blk_cell BK1.out 4).trans rfl; have hcz7_5 : w5.cell? ⟨gb1, 5, none⟩ = some (.int .u32 a1_5) := (blk_cell BK1.out 5).trans rfl; have hcz7_6 : w5.cell? ⟨gb1, 6, none⟩ = some (.int .i64 a1_6) := (blk_cell BK1.out 6).trans rfl; have hcz7_7 : w5.cell? ⟨gb1, 7, none⟩ = some (.int .u32 a1_7) := (blk_cell BK1.out 7).trans rfl; have hfz7_0 := blk_frozen BK1.out 0; have hfz7_1 := blk_frozen BK1.out 1; have hfz7_2 := blk_frozen BK1.out 2; have hfz7_3 := blk_frozen BK1.out 3; have hfz7_4 := blk_frozen BK1.out 4; have hfz7_5 := blk_frozen BK1.out 5; have hfz7_6 := blk_frozen BK1.out 6; have hfz7_7 := blk_frozen BK1.out 7) | ((with_reducible refine gate_callee (f := 12) rfl ?_); refine goesL_ (some 8) rfl rfl Try.func12 (by kernel_rfl) rfl #[.agg #[.int .u32 a1_0, .int .i64 a1_1, .slice A1_2 l1_2.length c1_2, .slice A1_3 l1_3.length c1_3, .int .u32 a1_4, .int .u32 a1_5, .int .i64 a1_6, .int .u32 a1_7]] rfl (by (try simp only [List.map_toArray, List.map_cons, List.map_nil]); first | done | rfl | (simp only [List.length_drop, List.length_take]; rfl)) ?_; (with_reducible refine (q2z.calls a1_0 a1_1 _ _ l1_2 _ _ l1_3 a1_4 a1_5 a1_6 a1_7 t3 t4 t5 t8 t11 t12 t13 t14 _ ?side1 ?side2 ?side3 ?side4 A3.out).mono ?_); (case side1 => repeat (first | exact (Kd.C_below HR1_2.out HB.out) | (with_reducible refine Kd.C_alloc ?_ _) | (with_reducible refine Kd.C_drewN ?_ _) | (with_reducible refine Kd.C_drew ?_))); (case side2 => exact HC1_2.out); (case side3 => repeat (first | exact (Kd.C_below HR1_3.out HB.out) | (with_reducible refine Kd.C_alloc ?_ _) | (with_reducible refine Kd.C_drewN ?_ _) | (with_reducible refine Kd.C_drew ?_))); (case side4 => exact HC1_3.out); rintro e w8 ⟨v6, v9, rfl, ho0, ho1, hb⟩; refine ⟨_, rfl, ?_⟩; have n0_ := Aside0.mk (Kd.R_lower ho0 (below_size (hbW HB))); have n1_ := Aside0.mk (Kd.R_lower ho1 (below_size (hbW HB))); have n2_ := bkB BK1 hb; have n3_ := bkB BK2 hb; have n4_ := hbS HB hb; clear BK1; clear BK2; clear HB; have HO7 := n0_; have HO10 := n1_; have BK1 := n2_; have BK2 := n3_; have HB := n4_; clear n0_ n1_ n2_ n3_ n4_; (try clear hb); (try clear hb2); (try clear hk); (try clear hi); (try clear ho0); (try clear ho1); have hcz9_0 : w8.cell? ⟨gb1, 0, none⟩ = some (.int .u32 a1_0) := (blk_cell BK1.out 0).trans rfl; have hcz9_1 : w8.cell? ⟨gb1, 1, none⟩ = some (.int .i64 a1_1) := (blk_cell BK1.out 1).trans rfl; have hcz9_2 : w8.cell? ⟨gb1, 2, none⟩ = some (.slice A1_2 l1_2.length c1_2) := (blk_cell BK1.out 2).trans rfl; have hcz9_3 : w8.cell? ⟨gb1, 3, none⟩ = some (.slice A1_3 l1_3.length c1_3) := (blk_cell BK1.out 3).trans rfl; have hcz9_4 : w8.cell? ⟨gb1, 4, none⟩ = some (.int .u32 a1_4) := (blk_cell BK1.out 4).trans rfl; have hcz9_5 : w8.cell? ⟨gb1, 5, none⟩ = some (.int .u32 a1_5) := (blk_cell BK1.out 5).trans rfl; have hcz9_6 : w8.cell? ⟨gb1, 6, none⟩ = some (.int .i64 a1_6) := (blk_cell BK1.out 6).trans rfl; have hcz9_7 : w8.cell? ⟨gb1, 7, none⟩ = some (.int .u32 a1_7) := (blk_cell BK1.out 7).trans rfl; have hfz9_0 := blk_frozen BK1.out 0; have hfz9_1 := blk_frozen BK1.out 1; have hfz9_2 := blk_frozen BK1.out 2; have hfz9_3 := blk_frozen BK1.out 3; have hfz9_4 := blk_frozen BK1.out 4; have hfz9_5 := blk_frozen BK1.out 5; have hfz9_6 := blk_frozen BK1.out 6; have hfz9_7 := blk_frozen BK1.out 7; obtain ⟨Ao10, co10, eo10⟩ := Kd.R_slice HO7.out; subst eo10; obtain ⟨Ao11, co11, eo11⟩ := Kd.R_slice HO10.out; subst eo11))
 go_loopg [11] k (fun kq v11 w' => ∃ (x11_1 : Int) (x2000_1 : Int) (x2001_1 : Int) (x2002_1 : List Int) (x2003_1 : List Int) (x2004_1 : Int) (x2005_1 : Int) (x2006_1 : Int) (x2007_1 : Int) (u2002 : Value) (u2003 : Value), v11 = .int .i64 x11_1 ∧ Aside0 (q21z.l0 kq l0 (l0.length : Int) x11_1 x2000_1 x2001_1 x2002_1 x2003_1 x2004_1 x2005_1 x2006_1 x2007_1 = some (r1, r2, r3, r4, r5, r6, r7, r8)) ∧ Aside0 (kq ≤ k) ∧ Aside0 (Kd.R (Kd.int .u32) 22 w' w.heap.size (fun k_ => some k_ ≠ (u2003 : Value).ownBlock) u2002 x2002_1) ∧ Aside0 (Kd.R (Kd.int .u32) 22 w' w.heap.size (fun k_ => some k_ ≠ (u2002 : Value).ownBlock) u2003 x2003_1) ∧ Aside0 (w'.heap[gb1]? = some (.cells #[.int .u32 x2000_1, .int .i64 x2001_1, u2002, u2003, .int .u32 x2004_1, .int .u32 x2005_1, .int .i64 x2006_1, .int .u32 x2007_1] 30 (0, 0))) ∧ Aside0 (w'.heap[gb2]? = some (.cells #[.int .u32 0, .int .i64 0, (.slice none 0 0), (.slice none 0 0), .int .u32 0, .int .u32 0, .int .i64 0, .int .u32 0] 30 (0, 0))) ∧ Aside0 (Below w.heap.size w w'))
 case atStart => exact ⟨(0), (t3), (t4), (t5), (t8), (t11), (t12), (t13), (t14), (.slice Ao10 t5.length co10), (.slice Ao11 t8.length co11), (by first | rfl | (simp; done) | (simp [*]; done)), H', ⟨Nat.le_refl _⟩, ⟨by (with_reducible repeat (first | apply Kd.R_alloc | apply Kd.R_drewN | apply Kd.R_drew)); exact Kd.R_mono (Kd.R_far (p := ⟨gb1, 7, none⟩) (Kd.R_far (p := ⟨gb1, 6, none⟩) (Kd.R_far (p := ⟨gb1, 5, none⟩) (Kd.R_far (p := ⟨gb1, 4, none⟩) (Kd.R_far (p := ⟨gb1, 3, none⟩) (Kd.R_far (p := ⟨gb1, 2, none⟩) (Kd.R_far (p := ⟨gb1, 1, none⟩) (Kd.R_far (p := ⟨gb1, 0, none⟩) (Kd.R_types HO7.out BK1.out (by decide)) (fun _ hk => hk.2) (.int .u32 t3)) (fun _ hk => hk.2) (.int .i64 t4)) (fun _ hk => hk.2) (.slice Ao10 t5.length co10)) (fun _ hk => hk.2) (.slice Ao11 t8.length co11)) (fun _ hk => hk.2) (.int .u32 t11)) (fun _ hk => hk.2) (.int .u32 t12)) (fun _ hk => hk.2) (.int .i64 t13)) (fun _ hk => hk.2) (.int .u32 t14)) (fun _ hk => hk.1)⟩, ⟨by (with_reducible repeat (first | apply Kd.R_alloc | apply Kd.R_drewN | apply Kd.R_drew)); exact Kd.R_mono (Kd.R_far (p := ⟨gb1, 7, none⟩) (Kd.R_far (p := ⟨gb1, 6, none⟩) (Kd.R_far (p := ⟨gb1, 5, none⟩) (Kd.R_far (p := ⟨gb1, 4, none⟩) (Kd.R_far (p := ⟨gb1, 3, none⟩) (Kd.R_far (p := ⟨gb1, 2, none⟩) (Kd.R_far (p := ⟨gb1, 1, none⟩) (Kd.R_far (p := ⟨gb1, 0, none⟩) (Kd.R_types HO10.out BK1.out (by decide)) (fun _ hk => hk.2) (.int .u32 t3)) (fun _ hk => hk.2) (.int .i64 t4)) (fun _ hk => hk.2) (.slice Ao10 t5.length co10)) (fun _ hk => hk.2) (.slice Ao11 t8.length co11)) (fun _ hk => hk.2) (.int .u32 t11)) (fun _ hk => hk.2) (.int .u32 t12)) (fun _ hk => hk.2) (.int .i64 t13)) (fun _ hk => hk.2) (.int .u32 t14)) (fun _ hk => hk.1)⟩, ⟨by (with_reducible repeat (first | refine blk_drewN ?_ _ | refine blk_drew ?_ | refine blk_alloc ?_ _)); refine blk_put (cs := #[.int .u32 t3, .int .i64 t4, .slice Ao10 t5.length co10, .slice Ao11 t8.length co11, .int .u32 t11, .int .u32 t12, .int .i64 t13, .int .u32 a1_7]) ?_ 7 _ rfl; (with_reducible repeat (first | refine blk_drewN ?_ _ | refine blk_drew ?_ | refine blk_alloc ?_ _)); refine blk_put (cs := #[.int .u32 t3, .int .i64 t4, .slice Ao10 t5.length co10, .slice Ao11 t8.length co11, .int .u32 t11, .int .u32 t12, .int .i64 a1_6, .int .u32 a1_7]) ?_ 6 _ rfl; (with_reducible repeat (first | refine blk_drewN ?_ _ | refine blk_drew ?_ | refine blk_alloc ?_ _)); refine blk_put (cs := #[.int .u32 t3, .int .i64 t4, .slice Ao10 t5.length co10, .slice Ao11 t8.length co11, .int .u32 t11, .int .u32 a1_5, .int .i64 a1_6, .int .u32 a1_7]) ?_ 5 _ rfl; (with_reducible repeat (first | refine blk_drewN ?_ _ | refine blk_drew ?_ | refine blk_alloc ?_ _)); refine blk_put (cs := #[.int .u32 t3, .int .i64 t4, .slice Ao10 t5.length co10, .slice Ao11 t8.length co11, .int .u32 a1_4, .int .u32 a1_5, .int .i64 a1_6, .int .u32 a1_7]) ?_ 4 _ rfl; (with_reducible repeat (first | refine blk_drewN ?_ _ | refine blk_drew ?_ | refine blk_alloc ?_ _)); refine blk_put (cs := #[.int .u32 t3, .int .i64 t4, .slice Ao10 t5.length co10, .slice A1_3 l1_3.length c1_3, .int .u32 a1_4, .int .u32 a1_5, .int .i64 a1_6, .int .u32 a1_7]) ?_ 3 _ rfl; (with_reducible repeat (first | refine blk_drewN ?_ _ | refine blk_drew ?_ | refine blk_alloc ?_ _)); refine blk_put (cs := #[.int .u32 t3, .int .i64 t4, .slice A1_2 l1_2.length c1_2, .slice A1_3 l1_3.length c1_3, .int .u32 a1_4, .int .u32 a1_5, .int .i64 a1_6, .int .u32 a1_7]) ?_ 2 _ rfl; (with_reducible repeat (first | refine blk_drewN ?_ _ | refine blk_drew ?_ | refine blk_alloc ?_ _)); refine blk_put (cs := #[.int .u32 t3, .int .i64 a1_1, .slice A1_2 l1_2.length c1_2, .slice A1_3 l1_3.length c1_3, .int .u32 a1_4, .int .u32 a1_5, .int .i64 a1_6, .int .u32 a1_7]) ?_ 1 _ rfl; (with_reducible repeat (first | refine blk_drewN ?_ _ | refine blk_drew ?_ | refine blk_alloc ?_ _)); refine blk_put (cs := #[.int .u32 a1_0, .int .i64 a1_1, .slice A1_2 l1_2.length c1_2, .slice A1_3 l1_3.length c1_3, .int .u32 a1_4, .int .u32 a1_5, .int .i64 a1_6, .int .u32 a1_7]) ?_ 0 _ rfl; (with_reducible repeat (first | refine blk_drewN ?_ _ | refine blk_drew ?_ | refine blk_alloc ?_ _)); exact BK1.out⟩, ⟨by (with_reducible repeat (first | refine blk_drewN ?_ _ | refine blk_drew ?_ | refine blk_alloc ?_ _)); refine blk_far ?_ NB2_1.out _; (with_reducible repeat (first | refine blk_drewN ?_ _ | refine blk_drew ?_ | refine blk_alloc ?_ _)); refine blk_far ?_ NB2_1.out _; (with_reducible repeat (first | refine blk_drewN ?_ _ | refine blk_drew ?_ | refine blk_alloc ?_ _)); refine blk_far ?_ NB2_1.out _; (with_reducible repeat (first | refine blk_drewN ?_ _ | refine blk_drew ?_ | refine blk_alloc ?_ _)); refine blk_far ?_ NB2_1.out _; (with_reducible repeat (first | refine blk_drewN ?_ _ | refine blk_drew ?_ | refine blk_alloc ?_ _)); refine blk_far ?_ NB2_1.out _; (with_reducible repeat (first | refine blk_drewN ?_ _ | refine blk_drew ?_ | refine blk_alloc ?_ _)); refine blk_far ?_ NB2_1.out _; (with_reducible repeat (first | refine blk_drewN ?_ _ | refine blk_drew ?_ | refine blk_alloc ?_ _)); refine blk_far ?_ NB2_1.out _; (with_reducible repeat (first | refine blk_drewN ?_ _ | refine blk_drew ?_ | refine blk_alloc ?_ _)); refine blk_far ?_ NB2_1.out _; (with_reducible repeat (first | refine blk_drewN ?_ _ | refine blk_drew ?_ | refine blk_alloc ?_ _)); exact BK2.out⟩, ⟨hbW HB⟩⟩
 case round =>
  clear H'
  try clear c1
  try clear c2
  try clear p2
  try clear c6
  try clear hcz7_0
  try clear hcz7_1
  try clear hcz7_2
  try clear hcz7_3
  try clear hcz7_4
  try clear hcz7_5
  try clear hcz7_6
  try clear hcz7_7
  try clear hcz9_0
  try clear hcz9_1
  try clear hcz9_2
  try clear hcz9_3
  try clear hcz9_4
  try clear hcz9_5
  try clear hcz9_6
  try clear hcz9_7
  try clear hfz7_0
  try clear hfz7_1
  try clear hfz7_2
  try clear hfz7_3
  try clear hfz7_4
  try clear hfz7_5
  try clear hfz7_6
  try clear hfz7_7
  try clear hfz9_0
  try clear hfz9_1
  try clear hfz9_2
  try clear hfz9_3
  try clear hfz9_4
  try clear hfz9_5
  try clear hfz9_6
  try clear hfz9_7
  obtain ⟨x11_1, x2000_1, x2001_1, x2002_1, x2003_1, x2004_1, x2005_1, x2006_1, x2007_1, u2002, u2003, rfl, HA, HK1, HO_2002, HO_2003, BK1, BK2, HB⟩ := hrel
  cases gk with
  | zero => exact absurd HA.out (by simp [q21z.l0])
  | succ k1 =>
   have H := HA.out
   clear HA
   simp only [q21z.l0] at H
   by_cases c12 : x11_1 < (l0.length : Int)
   ·
    rw [if_pos c12] at H
    have c12b0 : decide (x11_1 < (l0.length : Int)) = true := decide_eq_true c12
    clear c12
    by_cases c13 : 0 ≤ x11_1
    ·
     rw [if_pos c13] at H
     have c13b0 : decide (0 ≤ x11_1) = true := decide_eq_true c13
     clear c13
     by_cases c14 : x11_1 < (l0.length : Int)
     ·
      rw [if_pos c14] at H
      have c14b0 : decide (x11_1 < (l0.length : Int)) = true := decide_eq_true c14
      clear c14
      replace H := Option.bind_eq_some_iff.mp H
      obtain ⟨⟨t17, t18, t19, t22, t25, t26, t27, t28⟩, A150, H⟩ := H
      replace H : (q21z.l0 k1 l0 (l0.length : Int) (wrap64 (x11_1 + 1)) t17 t18 t19 t22 t25 t26 t27 t28) = some (r1, r2, r3, r4, r5, r6, r7, r8) := H
      have A15 := Aside0.mk A150
      clear A150
      have H' := Aside0.mk H
      clear H
      have p15 : 0 ≤ (x11_1 : Int) := of_decide_eq_true (by first | (with_reducible assumption) | assumption)
      have q15 : x11_1 < (l0.length : Int) := of_decide_eq_true (by first | (with_reducible assumption) | assumption)
      obtain ⟨ad15, A15_2, c15_2, A15_3, c15_3, e15, hx15_0, hx15_1, hx15_2, hx15_3, hl15_2, hi15_2, hl15_3, hi15_3⟩ := at_T26 HR0.out x11_1 p15 q15
      cases e15
      replace hx15_0 := (HB.out.cell (World.block_lt_of_cell? w _ hx15_0)).trans hx15_0
      replace hx15_1 := (HB.out.cell (World.block_lt_of_cell? w _ hx15_1)).trans hx15_1
      replace hx15_2 := (HB.out.cell (World.block_lt_of_cell? w _ hx15_2)).trans hx15_2
      replace hx15_3 := (HB.out.cell (World.block_lt_of_cell? w _ hx15_3)).trans hx15_3
      have HR15_2 := Aside0.mk hi15_2
      have HC15_2 := Aside0.mk hl15_2
      clear hi15_2 hl15_2
      have HR15_3 := Aside0.mk hi15_3
      have HC15_3 := Aside0.mk hl15_3
      clear hi15_3 hl15_3
      replace p15 := eq_true p15
      replace q15 := eq_true q15
      go_wp2_with (first | ((with_reducible refine gate_dst (N := 6) rfl ?_); refine box_event ?hg (N := 6) ?hd (cs := #[.int .i64 0, .int .u32 0, .slice none 0 0, .slice none 0 0]) (t := 26) ?hr ?_; (case hd => rfl); (case hg => rfl); (case hr => first | (go_simp; done) | (go_simp; rfl)); intro gb16 hg w16 hbox hb; have n0_ := Aside0.mk (Kd.R_below (rW HO_2002) hb); have n1_ := Aside0.mk (Kd.R_below (rW HO_2003) hb); have n2_ := bkB BK1 hb; have n3_ := bkB BK2 hb; have n4_ := hbS HB hb; have n5_ := Aside0.mk (hbox); have n6_ := Aside0.mk ((by rw [hg]; exact (below_size (hbW HB)) : w.heap.size ≤ gb16)); have n7_ := Aside0.mk ((by rw [hg]; exact (below_size (hbW HB)) : w.heap.size ≤ gb16)); have n8_ := Aside0.mk ((by rw [hg]; exact Nat.ne_of_lt (blk_lt (bkW BK1)) : gb1 ≠ gb16)); have n9_ := Aside0.mk ((by rw [hg]; exact Nat.ne_of_gt (blk_lt (bkW BK1)) : gb16 ≠ gb1)); have n10_ := Aside0.mk ((by rw [hg]; exact Nat.ne_of_lt (blk_lt (bkW BK2)) : gb2 ≠ gb16)); have n11_ := Aside0.mk ((by rw [hg]; exact Nat.ne_of_gt (blk_lt (bkW BK2)) : gb16 ≠ gb2)); clear HO_2002; clear HO_2003; clear BK1; clear BK2; clear HB; have HO_2002 := n0_; have HO_2003 := n1_; have BK1 := n2_; have BK2 := n3_; have HB := n4_; have BK16 := n5_; have GW16 := n6_; have GE16 := n7_; have NB1_16 := n8_; have NB16_1 := n9_; have NB2_16 := n10_; have NB16_2 := n11_; clear n0_ n1_ n2_ n3_ n4_ n5_ n6_ n7_ n8_ n9_ n10_ n11_; clear hb hbox hg; have hnb17 := NB16_1.out; have hnc17 := NB1_16.out; have hnb18 := NB16_2.out; have hnc18 := NB2_16.out; have hcz19_0 : w16.cell? ⟨gb16, 0, none⟩ = some (.int .i64 0) := (blk_cell BK16.out 0).trans rfl; have hcz19_1 : w16.cell? ⟨gb16, 1, none⟩ = some (.int .u32 0) := (blk_cell BK16.out 1).trans rfl; have hcz19_2 : w16.cell? ⟨gb16, 2, none⟩ = some (.slice none 0 0) := (blk_cell BK16.out 2).trans rfl; have hcz19_3 : w16.cell? ⟨gb16, 3, none⟩ = some (.slice none 0 0) := (blk_cell BK16.out 3).trans rfl; have hfz19_0 := blk_frozen BK16.out 0; have hfz19_1 := blk_frozen BK16.out 1; have hfz19_2 := blk_frozen BK16.out 2; have hfz19_3 := blk_frozen BK16.out 3; have hnb20 := NB1_2.out; have hnc20 := NB2_1.out; have hcz21_0 : w16.cell? ⟨gb1, 0, none⟩ = some (.int .u32 x2000_1) := (blk_cell BK1.out 0).trans rfl; have hcz21_1 : w16.cell? ⟨gb1, 1, none⟩ = some (.int .i64 x2001_1) := (blk_cell BK1.out 1).trans rfl; have hcz21_2 : w16.cell? ⟨gb1, 2, none⟩ = some (u2002) := (blk_cell BK1.out 2).trans rfl; have hcz21_3 : w16.cell? ⟨gb1, 3, none⟩ = some (u2003) := (blk_cell BK1.out 3).trans rfl; have hcz21_4 : w16.cell? ⟨gb1, 4, none⟩ = some (.int .u32 x2004_1) := (blk_cell BK1.out 4).trans rfl; have hcz21_5 : w16.cell? ⟨gb1, 5, none⟩ = some (.int .u32 x2005_1) := (blk_cell BK1.out 5).trans rfl; have hcz21_6 : w16.cell? ⟨gb1, 6, none⟩ = some (.int .i64 x2006_1) := (blk_cell BK1.out 6).trans rfl; have hcz21_7 : w16.cell? ⟨gb1, 7, none⟩ = some (.int .u32 x2007_1) := (blk_cell BK1.out 7).trans rfl; have hfz21_0 := blk_frozen BK1.out 0; have hfz21_1 := blk_frozen BK1.out 1; have hfz21_2 := blk_frozen BK1.out 2; have hfz21_3 := blk_frozen BK1.out 3; have hfz21_4 := blk_frozen BK1.out 4; have hfz21_5 := blk_frozen BK1.out 5; have hfz21_6 := blk_frozen BK1.out 6; have hfz21_7 := blk_frozen BK1.out 7; obtain ⟨Ao22, co22, eo22⟩ := Kd.R_slice HO_2002.out; subst eo22; obtain ⟨Ao23, co23, eo23⟩ := Kd.R_slice HO_2003.out; subst eo23) | ((with_reducible refine gate_callee (f := 17) rfl ?_); refine goesL_ (some 17) rfl rfl Try.func17 (by kernel_rfl) rfl #[.agg #[.int .i64 ((rd_T26 l0 x11_1).f0), .int .u32 ((rd_T26 l0 x11_1).f1), .slice A15_2 ((rd_T26 l0 x11_1).f2).length c15_2, .slice A15_3 ((rd_T26 l0 x11_1).f3).length c15_3], .agg #[.int .u32 x2000_1, .int .i64 x2001_1, .slice Ao22 x2002_1.length co22, .slice Ao23 x2003_1.length co23, .int .u32 x2004_1, .int .u32 x2005_1, .int .i64 x2006_1, .int .u32 x2007_1]] rfl (by (try simp only [List.map_toArray, List.map_cons, List.map_nil]); first | done | rfl | (simp only [List.length_drop, List.length_take]; rfl)) ?_; (with_reducible refine (q20z.calls k1 ((rd_T26 l0 x11_1).f0) ((rd_T26 l0 x11_1).f1) _ _ ((rd_T26 l0 x11_1).f2) _ _ ((rd_T26 l0 x11_1).f3) x2000_1 x2001_1 _ _ x2002_1 _ _ x2003_1 x2004_1 x2005_1 x2006_1 x2007_1 t17 t18 t19 t22 t25 t26 t27 t28 _ ?side1 ?side2 ?side3 ?side4 ?side5 ?side6 ?side7 ?side8 A15.out).mono ?_); (case side1 => exact Kd.C_below HR15_2.out (hbW HB)); (case side2 => exact HC15_2.out); (case side3 => exact Kd.C_below HR15_3.out (hbW HB)); (case side4 => exact HC15_3.out); (case side5 => refine (Kd.R_reads' (e := 22) (base := w.heap.size) (ok := fun k_ => some k_ ≠ (.slice Ao23 x2003_1.length co23 : Value).ownBlock) (n := x2002_1.length) (c := co22) ?_).2.2; exact (rW HO_2002)); (case side6 => exact (Kd.R_reads' HO_2002.out).2.1); (case side7 => refine (Kd.R_reads' (e := 22) (base := w.heap.size) (ok := fun k_ => some k_ ≠ (.slice Ao22 x2002_1.length co22 : Value).ownBlock) (n := x2003_1.length) (c := co23) ?_).2.2; exact (rW HO_2003)); (case side8 => exact (Kd.R_reads' HO_2003.out).2.1); rintro e w24 ⟨v20, v23, rfl, ho0, ho1, hb⟩; refine ⟨_, rfl, ?_⟩; have n0_ := Aside0.mk (Kd.R_mono (Kd.R_told (Kd.R_told (Kd.R_old (rW HO_2002) hb) (Kd.R_base ho0)) (Kd.R_base ho1)) (fun _ h_ => h_.1)); have n1_ := Aside0.mk (Kd.R_mono (Kd.R_told (Kd.R_told (Kd.R_old (rW HO_2003) hb) (Kd.R_base ho0)) (Kd.R_base ho1)) (fun _ h_ => h_.1)); have n2_ := Aside0.mk (Kd.R_lower (Kd.R_new' (Kd.R_new' ho0 (Kd.R_lt (rW HO_2002))) (Kd.R_lt (rW HO_2003))) (below_size (hbW HB))); have n3_ := Aside0.mk (Kd.R_lower (Kd.R_new' (Kd.R_new' ho1 (Kd.R_lt (rW HO_2002))) (Kd.R_lt (rW HO_2003))) (below_size (hbW HB))); have n4_ := Aside0.mk (blk_below (g := gb1) (o := .cells #[.int .u32 x2000_1, .int .i64 x2001_1, .slice Ao22 x2002_1.length co22, .slice Ao23 x2003_1.length co23, .int .u32 x2004_1, .int .u32 x2005_1, .int .i64 x2006_1, .int .u32 x2007_1] 30 (0, 0)) (by (with_reducible repeat (first | refine blk_drewN ?_ _ | refine blk_drew ?_ | refine blk_alloc ?_ _)); refine blk_far ?_ NB1_16.out _; (with_reducible repeat (first | refine blk_drewN ?_ _ | refine blk_drew ?_ | refine blk_alloc ?_ _)); refine blk_far ?_ NB1_16.out _; (with_reducible repeat (first | refine blk_drewN ?_ _ | refine blk_drew ?_ | refine blk_alloc ?_ _)); refine blk_far ?_ NB1_16.out _; (with_reducible repeat (first | refine blk_drewN ?_ _ | refine blk_drew ?_ | refine blk_alloc ?_ _)); refine blk_far ?_ NB1_16.out _; (with_reducible repeat (first | refine blk_drewN ?_ _ | refine blk_drew ?_ | refine blk_alloc ?_ _)); exact BK1.out) hb); have n5_ := Aside0.mk (blk_below (g := gb2) (o := .cells #[.int .u32 0, .int .i64 0, .slice none 0 0, .slice none 0 0, .int .u32 0, .int .u32 0, .int .i64 0, .int .u32 0] 30 (0, 0)) (by (with_reducible repeat (first | refine blk_drewN ?_ _ | refine blk_drew ?_ | refine blk_alloc ?_ _)); refine blk_far ?_ NB2_16.out _; (with_reducible repeat (first | refine blk_drewN ?_ _ | refine blk_drew ?_ | refine blk_alloc ?_ _)); refine blk_far ?_ NB2_16.out _; (with_reducible repeat (first | refine blk_drewN ?_ _ | refine blk_drew ?_ | refine blk_alloc ?_ _)); refine blk_far ?_ NB2_16.out _; (with_reducible repeat (first | refine blk_drewN ?_ _ | refine blk_drew ?_ | refine blk_alloc ?_ _)); refine blk_far ?_ NB2_16.out _; (with_reducible repeat (first | refine blk_drewN ?_ _ | refine blk_drew ?_ | refine blk_alloc ?_ _)); exact BK2.out) hb); have n6_ := Aside0.mk (blk_below (g := gb16) (o := .cells #[.int .i64 ((rd_T26 l0 x11_1).f0), .int .u32 ((rd_T26 l0 x11_1).f1), .slice A15_2 ((rd_T26 l0 x11_1).f2).length c15_2, .slice A15_3 ((rd_T26 l0 x11_1).f3).length c15_3] 26 (0, 0)) (bp4 BK16) hb); have n7_ := hbS HB hb; clear HO_2002; clear HO_2003; clear BK1; clear BK2; clear BK16; clear HB; have HO_2002 := n0_; have HO_2003 := n1_; have HO21 := n2_; have HO24 := n3_; have BK1 := n4_; have BK2 := n5_; have BK16 := n6_; have HB := n7_; clear n0_ n1_ n2_ n3_ n4_ n5_ n6_ n7_; (try clear hb); (try clear hb2); (try clear hk); (try clear hi); (try clear ho0); (try clear ho1); have hcz25_0 : w24.cell? ⟨gb1, 0, none⟩ = some (.int .u32 x2000_1) := (blk_cell BK1.out 0).trans rfl; have hcz25_1 : w24.cell? ⟨gb1, 1, none⟩ = some (.int .i64 x2001_1) := (blk_cell BK1.out 1).trans rfl; have hcz25_2 : w24.cell? ⟨gb1, 2, none⟩ = some (.slice Ao22 x2002_1.length co22) := (blk_cell BK1.out 2).trans rfl; have hcz25_3 : w24.cell? ⟨gb1, 3, none⟩ = some (.slice Ao23 x2003_1.length co23) := (blk_cell BK1.out 3).trans rfl; have hcz25_4 : w24.cell? ⟨gb1, 4, none⟩ = some (.int .u32 x2004_1) := (blk_cell BK1.out 4).trans rfl; have hcz25_5 : w24.cell? ⟨gb1, 5, none⟩ = some (.int .u32 x2005_1) := (blk_cell BK1.out 5).trans rfl; have hcz25_6 : w24.cell? ⟨gb1, 6, none⟩ = some (.int .i64 x2006_1) := (blk_cell BK1.out 6).trans rfl; have hcz25_7 : w24.cell? ⟨gb1, 7, none⟩ = some (.int .u32 x2007_1) := (blk_cell BK1.out 7).trans rfl; have hfz25_0 := blk_frozen BK1.out 0; have hfz25_1 := blk_frozen BK1.out 1; have hfz25_2 := blk_frozen BK1.out 2; have hfz25_3 := blk_frozen BK1.out 3; have hfz25_4 := blk_frozen BK1.out 4; have hfz25_5 := blk_frozen BK1.out 5; have hfz25_6 := blk_frozen BK1.out 6; have hfz25_7 := blk_frozen BK1.out 7; obtain ⟨Ao26, co26, eo26⟩ := Kd.R_slice HO21.out; subst eo26; obtain ⟨Ao27, co27, eo27⟩ := Kd.R_slice HO24.out; subst eo27))
      go_roundg k1
      case measure => have := HK1.out; omega
      case rel => exact ⟨(wrap64 (x11_1 + 1)), (t17), (t18), (t19), (t22), (t25), (t26), (t27), (t28), (.slice Ao26 t19.length co26), (.slice Ao27 t22.length co27), (by first | rfl | (simp; done) | (simp [*]; done)), H', ⟨by have := HK1.out; omega⟩, ⟨by (with_reducible repeat (first | apply Kd.R_alloc | apply Kd.R_drewN | apply Kd.R_drew)); exact Kd.R_mono (Kd.R_far (p := ⟨gb1, 7, none⟩) (Kd.R_far (p := ⟨gb1, 6, none⟩) (Kd.R_far (p := ⟨gb1, 5, none⟩) (Kd.R_far (p := ⟨gb1, 4, none⟩) (Kd.R_far (p := ⟨gb1, 3, none⟩) (Kd.R_far (p := ⟨gb1, 2, none⟩) (Kd.R_far (p := ⟨gb1, 1, none⟩) (Kd.R_far (p := ⟨gb1, 0, none⟩) (Kd.R_types HO21.out BK1.out (by decide)) (fun _ hk => hk.2) (.int .u32 t17)) (fun _ hk => hk.2) (.int .i64 t18)) (fun _ hk => hk.2) (.slice Ao26 t19.length co26)) (fun _ hk => hk.2) (.slice Ao27 t22.length co27)) (fun _ hk => hk.2) (.int .u32 t25)) (fun _ hk => hk.2) (.int .u32 t26)) (fun _ hk => hk.2) (.int .i64 t27)) (fun _ hk => hk.2) (.int .u32 t28)) (fun _ hk => hk.1.1.1)⟩, ⟨by (with_reducible repeat (first | apply Kd.R_alloc | apply Kd.R_drewN | apply Kd.R_drew)); exact Kd.R_mono (Kd.R_far (p := ⟨gb1, 7, none⟩) (Kd.R_far (p := ⟨gb1, 6, none⟩) (Kd.R_far (p := ⟨gb1, 5, none⟩) (Kd.R_far (p := ⟨gb1, 4, none⟩) (Kd.R_far (p := ⟨gb1, 3, none⟩) (Kd.R_far (p := ⟨gb1, 2, none⟩) (Kd.R_far (p := ⟨gb1, 1, none⟩) (Kd.R_far (p := ⟨gb1, 0, none⟩) (Kd.R_types HO24.out BK1.out (by decide)) (fun _ hk => hk.2) (.int .u32 t17)) (fun _ hk => hk.2) (.int .i64 t18)) (fun _ hk => hk.2) (.slice Ao26 t19.length co26)) (fun _ hk => hk.2) (.slice Ao27 t22.length co27)) (fun _ hk => hk.2) (.int .u32 t25)) (fun _ hk => hk.2) (.int .u32 t26)) (fun _ hk => hk.2) (.int .i64 t27)) (fun _ hk => hk.2) (.int .u32 t28)) (fun _ hk => hk.1.1.1)⟩, ⟨by (with_reducible repeat (first | refine blk_drewN ?_ _ | refine blk_drew ?_ | refine blk_alloc ?_ _)); refine blk_put (cs := #[.int .u32 t17, .int .i64 t18, .slice Ao26 t19.length co26, .slice Ao27 t22.length co27, .int .u32 t25, .int .u32 t26, .int .i64 t27, .int .u32 x2007_1]) ?_ 7 _ rfl; (with_reducible repeat (first | refine blk_drewN ?_ _ | refine blk_drew ?_ | refine blk_alloc ?_ _)); refine blk_put (cs := #[.int .u32 t17, .int .i64 t18, .slice Ao26 t19.length co26, .slice Ao27 t22.length co27, .int .u32 t25, .int .u32 t26, .int .i64 x2006_1, .int .u32 x2007_1]) ?_ 6 _ rfl; (with_reducible repeat (first | refine blk_drewN ?_ _ | refine blk_drew ?_ | refine blk_alloc ?_ _)); refine blk_put (cs := #[.int .u32 t17, .int .i64 t18, .slice Ao26 t19.length co26, .slice Ao27 t22.length co27, .int .u32 t25, .int .u32 x2005_1, .int .i64 x2006_1, .int .u32 x2007_1]) ?_ 5 _ rfl; (with_reducible repeat (first | refine blk_drewN ?_ _ | refine blk_drew ?_ | refine blk_alloc ?_ _)); refine blk_put (cs := #[.int .u32 t17, .int .i64 t18, .slice Ao26 t19.length co26, .slice Ao27 t22.length co27, .int .u32 x2004_1, .int .u32 x2005_1, .int .i64 x2006_1, .int .u32 x2007_1]) ?_ 4 _ rfl; (with_reducible repeat (first | refine blk_drewN ?_ _ | refine blk_drew ?_ | refine blk_alloc ?_ _)); refine blk_put (cs := #[.int .u32 t17, .int .i64 t18, .slice Ao26 t19.length co26, .slice Ao23 x2003_1.length co23, .int .u32 x2004_1, .int .u32 x2005_1, .int .i64 x2006_1, .int .u32 x2007_1]) ?_ 3 _ rfl; (with_reducible repeat (first | refine blk_drewN ?_ _ | refine blk_drew ?_ | refine blk_alloc ?_ _)); refine blk_put (cs := #[.int .u32 t17, .int .i64 t18, .slice Ao22 x2002_1.length co22, .slice Ao23 x2003_1.length co23, .int .u32 x2004_1, .int .u32 x2005_1, .int .i64 x2006_1, .int .u32 x2007_1]) ?_ 2 _ rfl; (with_reducible repeat (first | refine blk_drewN ?_ _ | refine blk_drew ?_ | refine blk_alloc ?_ _)); refine blk_put (cs := #[.int .u32 t17, .int .i64 x2001_1, .slice Ao22 x2002_1.length co22, .slice Ao23 x2003_1.length co23, .int .u32 x2004_1, .int .u32 x2005_1, .int .i64 x2006_1, .int .u32 x2007_1]) ?_ 1 _ rfl; (with_reducible repeat (first | refine blk_drewN ?_ _ | refine blk_drew ?_ | refine blk_alloc ?_ _)); refine blk_put (cs := #[.int .u32 x2000_1, .int .i64 x2001_1, .slice Ao22 x2002_1.length co22, .slice Ao23 x2003_1.length co23, .int .u32 x2004_1, .int .u32 x2005_1, .int .i64 x2006_1, .int .u32 x2007_1]) ?_ 0 _ rfl; (with_reducible repeat (first | refine blk_drewN ?_ _ | refine blk_drew ?_ | refine blk_alloc ?_ _)); exact BK1.out⟩, ⟨by (with_reducible repeat (first | refine blk_drewN ?_ _ | refine blk_drew ?_ | refine blk_alloc ?_ _)); refine blk_far ?_ NB2_1.out _; (with_reducible repeat (first | refine blk_drewN ?_ _ | refine blk_drew ?_ | refine blk_alloc ?_ _)); refine blk_far ?_ NB2_1.out _; (with_reducible repeat (first | refine blk_drewN ?_ _ | refine blk_drew ?_ | refine blk_alloc ?_ _)); refine blk_far ?_ NB2_1.out _; (with_reducible repeat (first | refine blk_drewN ?_ _ | refine blk_drew ?_ | refine blk_alloc ?_ _)); refine blk_far ?_ NB2_1.out _; (with_reducible repeat (first | refine blk_drewN ?_ _ | refine blk_drew ?_ | refine blk_alloc ?_ _)); refine blk_far ?_ NB2_1.out _; (with_reducible repeat (first | refine blk_drewN ?_ _ | refine blk_drew ?_ | refine blk_alloc ?_ _)); refine blk_far ?_ NB2_1.out _; (with_reducible repeat (first | refine blk_drewN ?_ _ | refine blk_drew ?_ | refine blk_alloc ?_ _)); refine blk_far ?_ NB2_1.out _; (with_reducible repeat (first | refine blk_drewN ?_ _ | refine blk_drew ?_ | refine blk_alloc ?_ _)); refine blk_far ?_ NB2_1.out _; (with_reducible repeat (first | refine blk_drewN ?_ _ | refine blk_drew ?_ | refine blk_alloc ?_ _)); exact BK2.out⟩, ⟨hbW HB⟩⟩
     ·
      rw [if_neg c14] at H
      exact absurd H (by simp)
    ·
     rw [if_neg c13] at H
     exact absurd H (by simp)
   ·
    rw [if_neg c12] at H
    have c12b0 : decide (x11_1 < (l0.length : Int)) = false := decide_eq_false c12
    clear c12
    simp only [Option.some.injEq, Prod.mk.injEq] at H
    obtain ⟨rfl, rfl, rfl, rfl, rfl, rfl, rfl, rfl⟩ := H
    have hnb28 := NB1_2.out
    have hnc28 := NB2_1.out
    have hcz29_0 : wr.cell? ⟨gb1, 0, none⟩ = some (.int .u32 x2000_1) := (blk_cell BK1.out 0).trans rfl
    have hcz29_1 : wr.cell? ⟨gb1, 1, none⟩ = some (.int .i64 x2001_1) := (blk_cell BK1.out 1).trans rfl
    have hcz29_2 : wr.cell? ⟨gb1, 2, none⟩ = some (u2002) := (blk_cell BK1.out 2).trans rfl
    have hcz29_3 : wr.cell? ⟨gb1, 3, none⟩ = some (u2003) := (blk_cell BK1.out 3).trans rfl
    have hcz29_4 : wr.cell? ⟨gb1, 4, none⟩ = some (.int .u32 x2004_1) := (blk_cell BK1.out 4).trans rfl
    have hcz29_5 : wr.cell? ⟨gb1, 5, none⟩ = some (.int .u32 x2005_1) := (blk_cell BK1.out 5).trans rfl
    have hcz29_6 : wr.cell? ⟨gb1, 6, none⟩ = some (.int .i64 x2006_1) := (blk_cell BK1.out 6).trans rfl
    have hcz29_7 : wr.cell? ⟨gb1, 7, none⟩ = some (.int .u32 x2007_1) := (blk_cell BK1.out 7).trans rfl
    have hfz29_0 := blk_frozen BK1.out 0
    have hfz29_1 := blk_frozen BK1.out 1
    have hfz29_2 := blk_frozen BK1.out 2
    have hfz29_3 := blk_frozen BK1.out 3
    have hfz29_4 := blk_frozen BK1.out 4
    have hfz29_5 := blk_frozen BK1.out 5
    have hfz29_6 := blk_frozen BK1.out 6
    have hfz29_7 := blk_frozen BK1.out 7
    have hcz30_0 : wr.cell? ⟨gb2, 0, none⟩ = some (.int .u32 0) := (blk_cell BK2.out 0).trans rfl
    have hcz30_1 : wr.cell? ⟨gb2, 1, none⟩ = some (.int .i64 0) := (blk_cell BK2.out 1).trans rfl
    have hcz30_2 : wr.cell? ⟨gb2, 2, none⟩ = some (.slice none 0 0) := (blk_cell BK2.out 2).trans rfl
    have hcz30_3 : wr.cell? ⟨gb2, 3, none⟩ = some (.slice none 0 0) := (blk_cell BK2.out 3).trans rfl
    have hcz30_4 : wr.cell? ⟨gb2, 4, none⟩ = some (.int .u32 0) := (blk_cell BK2.out 4).trans rfl
    have hcz30_5 : wr.cell? ⟨gb2, 5, none⟩ = some (.int .u32 0) := (blk_cell BK2.out 5).trans rfl
    have hcz30_6 : wr.cell? ⟨gb2, 6, none⟩ = some (.int .i64 0) := (blk_cell BK2.out 6).trans rfl
    have hcz30_7 : wr.cell? ⟨gb2, 7, none⟩ = some (.int .u32 0) := (blk_cell BK2.out 7).trans rfl
    have hfz30_0 := blk_frozen BK2.out 0
    have hfz30_1 := blk_frozen BK2.out 1
    have hfz30_2 := blk_frozen BK2.out 2
    have hfz30_3 := blk_frozen BK2.out 3
    have hfz30_4 := blk_frozen BK2.out 4
    have hfz30_5 := blk_frozen BK2.out 5
    have hfz30_6 := blk_frozen BK2.out 6
    have hfz30_7 := blk_frozen BK2.out 7
    obtain ⟨Ao31, co31, eo31⟩ := Kd.R_slice HO_2002.out
    subst eo31
    obtain ⟨Ao32, co32, eo32⟩ := Kd.R_slice HO_2003.out
    subst eo32
    go_wp2
    refine bodyPost_ret (results_cell_row rfl _ _ gb2 30 #[.int .u32 x2000_1, .int .i64 x2001_1, .slice Ao31 x2002_1.length co31, .slice Ao32 x2003_1.length co32, .int .u32 x2004_1, .int .u32 x2005_1, .int .i64 x2006_1, .int .u32 x2007_1] (0, 0) _ rfl (bp8 BK2) Try.underlying30 rfl (by kernel_rfl)) rfl ?_
    exact ⟨_, _, by first | rfl | (simp [errW_none, errW_some] <;> rfl) | (simp [*, errW_none, errW_some] <;> rfl), by (with_reducible repeat (first | apply Kd.R_alloc | apply Kd.R_drewN | apply Kd.R_drew)); exact Kd.R_mono (Kd.R_far (p := ⟨gb2, 7, none⟩) (Kd.R_far (p := ⟨gb2, 6, none⟩) (Kd.R_far (p := ⟨gb2, 5, none⟩) (Kd.R_far (p := ⟨gb2, 4, none⟩) (Kd.R_far (p := ⟨gb2, 3, none⟩) (Kd.R_far (p := ⟨gb2, 2, none⟩) (Kd.R_far (p := ⟨gb2, 1, none⟩) (Kd.R_far (p := ⟨gb2, 0, none⟩) (Kd.R_types HO_2002.out BK2.out (by decide)) (fun _ hk => hk.2) (.int .u32 x2000_1)) (fun _ hk => hk.2) (.int .i64 x2001_1)) (fun _ hk => hk.2) (.slice Ao31 x2002_1.length co31)) (fun _ hk => hk.2) (.slice Ao32 x2003_1.length co32)) (fun _ hk => hk.2) (.int .u32 x2004_1)) (fun _ hk => hk.2) (.int .u32 x2005_1)) (fun _ hk => hk.2) (.int .i64 x2006_1)) (fun _ hk => hk.2) (.int .u32 x2007_1)) (fun _ hk => hk.1), by (with_reducible repeat (first | apply Kd.R_alloc | apply Kd.R_drewN | apply Kd.R_drew)); exact Kd.R_mono (Kd.R_far (p := ⟨gb2, 7, none⟩) (Kd.R_far (p := ⟨gb2, 6, none⟩) (Kd.R_far (p := ⟨gb2, 5, none⟩) (Kd.R_far (p := ⟨gb2, 4, none⟩) (Kd.R_far (p := ⟨gb2, 3, none⟩) (Kd.R_far (p := ⟨gb2, 2, none⟩) (Kd.R_far (p := ⟨gb2, 1, none⟩) (Kd.R_far (p := ⟨gb2, 0, none⟩) (Kd.R_types HO_2003.out BK2.out (by decide)) (fun _ hk => hk.2) (.int .u32 x2000_1)) (fun _ hk => hk.2) (.int .i64 x2001_1)) (fun _ hk => hk.2) (.slice Ao31 x2002_1.length co31)) (fun _ hk => hk.2) (.slice Ao32 x2003_1.length co32)) (fun _ hk => hk.2) (.int .u32 x2004_1)) (fun _ hk => hk.2) (.int .u32 x2005_1)) (fun _ hk => hk.2) (.int .i64 x2006_1)) (fun _ hk => hk.2) (.int .u32 x2007_1)) (fun _ hk => hk.1), hbW HB⟩

end Go.Proofs.Ytgelpccjdndfoaa.P

namespace Go.Proofs.Ytgelpccjdndfoaa.P
open Go.RowKit Go.Proofs.YtgelpccjdndfoaaW.PrintWords Go.Proofs.YtgelpccjdndfoaaW.PrintLast Go.Proofs.YtgelpccjdndfoaaW.PrintMore
attribute [local go_sem] max2_int min2_int max_two min_two max_three min_three max_four min_four
set_option linter.unusedVariables false
set_option linter.unusedSimpArgs false

/-! ### dragomanref01_Nums: function 20 -/
def q22z.l0 : Nat → List Int → List Int → Int → Int → Option (Bool)
 | 0, _, _, _, _ => none
 | k + 1, x0, x1, x12, x13 => if x13 < x12 then (if 0 ≤ x13 then (if x13 < (x0.length : Int) then (if x13 < (x1.length : Int) then (if (rd x0 x13) = (rd x1 x13) then (q22z.l0 k x0 x1 x12 (wrap64 (x13 + 1))) else (some false)) else (none)) else (none)) else (none)) else (some true)
def q22z.f (k : Nat) (l0 : List Int) (l1 : List Int) : Option (Bool) := if (l0.length : Int) = (l1.length : Int) then (q22z.l0 k l0 l1 (l0.length : Int) 0) else (some false)
theorem q22z.mono_l : ∀ k, (∀ y0 y1 y2 y3, LeO (q22z.l0 k y0 y1 y2 y3) (q22z.l0 (k + 1) y0 y1 y2 y3))
 | 0 => fun _ _ _ _ r h => by simp [q22z.l0] at h
 | k + 1 => by
  have ih0 := q22z.mono_l k
  ·
   intro y0 y1 y2 y3
   unfold q22z.l0
   repeat' first
   | (with_reducible exact ih0 _ _ _ _)
   | (with_reducible exact LeO.refl _)
   | (with_reducible exact LeO.none _)
   | (with_reducible refine LeO.ite ?_ ?_)
   | (with_reducible refine LeO.bind ?_ (fun _ => ?_))
   | exact ih0 _ _ _ _
   | exact LeO.none _
   | refine LeO.ite ?_ ?_
   | refine LeO.bind ?_ (fun _ => ?_)
theorem q22z.mono : ∀ a0 a1 k, LeO (q22z.f k a0 a1) (q22z.f (k + 1) a0 a1) := by
 intro a0 a1 k
 have ih0 := q22z.mono_l k
 unfold q22z.f
 repeat' first
   | (with_reducible exact ih0 _ _ _ _)
   | (with_reducible exact LeO.refl _)
   | (with_reducible exact LeO.none _)
   | (with_reducible refine LeO.ite ?_ ?_)
   | (with_reducible refine LeO.bind ?_ (fun _ => ?_))
   | exact ih0 _ _ _ _
   | exact LeO.none _
   | refine LeO.ite ?_ ?_
   | refine LeO.bind ?_ (fun _ => ?_)
set_option maxHeartbeats 8000000 in
set_option maxRecDepth 100000 in
theorem q22z.calls (k : Nat) (A0 : Option Addr) (c0 : Nat) (l0 : List Int) (A1 : Option Addr) (c1 : Nat) (l1 : List Int) (r : Bool) (w : World) (hr0 : Kd.C (Kd.int .u32) w A0 l0.length l0) (hc0 : l0.length ≤ c0) (hr1 : Kd.C (Kd.int .u32) w A1 l1.length l1) (hc1 : l1.length ≤ c1) (h : q22z.f k l0 l1 = some r) :
  Calls Try.prog 20 #[.slice A0 l0.length c0, .slice A1 l1.length c1] w fun e w' => e = .returned (.bool r) ∧ Drawn0 w w' := by
 have HR0 := Aside0.mk hr0
 have HC0 := Aside0.mk hc0
 clear hr0 hc0
 have HR1 := Aside0.mk hr1
 have HC1 := Aside0.mk hc1
 clear hr1 hc1
 have H : (if (l0.length : Int) = (l1.length : Int) then (q22z.l0 k l0 l1 (l0.length : Int) 0) else (some false)) = some r := h
 clear h
 by_cases c3 : (l0.length : Int) = (l1.length : Int)
 ·
  rw [if_pos c3] at H
  have c3b0 : ((l0.length : Int) == (l1.length : Int)) = true := beq_iff_eq.mpr c3
  have c3b1 : ((l0.length : Int) != (l1.length : Int)) = false := bne_eq_false_iff_eq.mpr c3
  have c3b2 : (l0.length == l1.length) = true := by first | simpa using c3 | (simp at c3 ⊢; omega)
  clear c3
  have H' := Aside0.mk H
  clear H
  go_enter Try.func20, Try.ntmps20
  go_wp2
  repeat (go_quiet (fail); try go_wp2)
  go_loopg [13] k (fun kq v13 w' => ∃ (x13_1 : Int), v13 = .int .i64 x13_1 ∧ Aside0 (q22z.l0 kq l0 l1 (l0.length : Int) x13_1 = some r) ∧ Aside0 (kq ≤ k) ∧ Drawn0 w w')
  case atStart => exact ⟨(0), (by first | rfl | (simp; done) | (simp [*]; done)), H', ⟨Nat.le_refl _⟩, by repeat (first | exact Drawn0.refl _ | apply Drawn0.step)⟩
  case round =>
   clear H'
   try clear c1
   try clear c2
   try clear p2
   try clear c3
   try clear c3b0
   try clear c3b1
   try clear c3b2
   obtain ⟨x13_1, rfl, HA, HK1, ⟨m1, rfl⟩⟩ := hrel
   cases gk with
   | zero => exact absurd HA.out (by simp [q22z.l0])
   | succ k1 =>
    have H := HA.out
    clear HA
    simp only [q22z.l0] at H
    by_cases c4 : x13_1 < (l0.length : Int)
    ·
     rw [if_pos c4] at H
     have c4b0 : decide (x13_1 < (l0.length : Int)) = true := decide_eq_true c4
     clear c4
     by_cases c5 : 0 ≤ x13_1
     ·
      rw [if_pos c5] at H
      have c5b0 : decide (0 ≤ x13_1) = true := decide_eq_true c5
      clear c5
      by_cases c6 : x13_1 < (l0.length : Int)
      ·
       rw [if_pos c6] at H
       have c6b0 : decide (x13_1 < (l0.length : Int)) = true := decide_eq_true c6
       clear c6
       by_cases c7 : x13_1 < (l1.length : Int)
       ·
        rw [if_pos c7] at H
        have c7b0 : decide (x13_1 < (l1.length : Int)) = true := decide_eq_true c7
        clear c7
        by_cases c8 : (rd l0 x13_1) = (rd l1 x13_1)
        ·
         rw [if_pos c8] at H
         have c8b0 : ((rd l0 x13_1) == (rd l1 x13_1)) = true := beq_iff_eq.mpr c8
         have c8b1 : ((rd l0 x13_1) != (rd l1 x13_1)) = false := bne_eq_false_iff_eq.mpr c8
         clear c8
         have H' := Aside0.mk H
         clear H
         have p1 : 0 ≤ (x13_1 : Int) := of_decide_eq_true (by first | (with_reducible assumption) | assumption)
         have q1 : x13_1 < (l0.length : Int) := of_decide_eq_true (by first | (with_reducible assumption) | assumption)
         obtain ⟨ad1, e1, hx1_0⟩ := Kd.at_int HR0.out x13_1 p1 q1
         cases e1
         replace p1 := eq_true p1
         replace q1 := eq_true q1
         have p2 : 0 ≤ (x13_1 : Int) := of_decide_eq_true (by first | (with_reducible assumption) | assumption)
         have q2 : x13_1 < (l1.length : Int) := of_decide_eq_true (by first | (with_reducible assumption) | assumption)
         obtain ⟨ad2, e2, hx2_0⟩ := Kd.at_int HR1.out x13_1 p2 q2
         cases e2
         replace p2 := eq_true p2
         replace q2 := eq_true q2
         go_wp2
         repeat (go_quiet (fail); try go_wp2)
         go_roundg k1
         case measure => have := HK1.out; omega
         case rel => exact ⟨(wrap64 (x13_1 + 1)), (by first | rfl | (simp; done) | (simp [*]; done)), H', ⟨by have := HK1.out; omega⟩, by repeat (first | exact Drawn0.refl _ | apply Drawn0.step)⟩
        ·
         rw [if_neg c8] at H
         have c8b0 : ((rd l0 x13_1) == (rd l1 x13_1)) = false := beq_eq_false_iff_ne.mpr c8
         have c8b1 : ((rd l0 x13_1) != (rd l1 x13_1)) = true := bne_iff_ne.mpr c8
         obtain rfl := Option.some.inj H
         have p1 : 0 ≤ (x13_1 : Int) := of_decide_eq_true (by first | (with_reducible assumption) | assumption)
         have q1 : x13_1 < (l0.length : Int) := of_decide_eq_true (by first | (with_reducible assumption) | assumption)
         obtain ⟨ad1, e1, hx1_0⟩ := Kd.at_int HR0.out x13_1 p1 q1
         cases e1
         replace p1 := eq_true p1
         replace q1 := eq_true q1
         have p2 : 0 ≤ (x13_1 : Int) := of_decide_eq_true (by first | (with_reducible assumption) | assumption)
         have q2 : x13_1 < (l1.length : Int) := of_decide_eq_true (by first | (with_reducible assumption) | assumption)
         obtain ⟨ad2, e2, hx2_0⟩ := Kd.at_int HR1.out x13_1 p2 q2
         cases e2
         replace p2 := eq_true p2
         replace q2 := eq_true q2
         go_wp2
         repeat (go_quiet (fail); try go_wp2)
         go_ret
         exact ⟨by first | rfl | (simp; done) | (simp [*]; done), by repeat (first | exact Drawn0.refl _ | apply Drawn0.step)⟩
       ·
        rw [if_neg c7] at H
        exact absurd H (by simp)
      ·
       rw [if_neg c6] at H
       exact absurd H (by simp)
     ·
      rw [if_neg c5] at H
      exact absurd H (by simp)
    ·
     rw [if_neg c4] at H
     have c4b0 : decide (x13_1 < (l0.length : Int)) = false := decide_eq_false c4
     clear c4
     obtain rfl := Option.some.inj H
     go_wp2
     repeat (go_quiet (fail); try go_wp2)
     go_ret
     exact ⟨by first | rfl | (simp; done) | (simp [*]; done), by repeat (first | exact Drawn0.refl _ | apply Drawn0.step)⟩
 ·
  rw [if_neg c3] at H
  have c3b0 : ((l0.length : Int) == (l1.length : Int)) = false := beq_eq_false_iff_ne.mpr c3
  have c3b1 : ((l0.length : Int) != (l1.length : Int)) = true := bne_iff_ne.mpr c3
  have c3b2 : (l0.length == l1.length) = false := by first | simpa using c3 | (simp at c3 ⊢; omega)
  obtain rfl := Option.some.inj H
  go_enter Try.func20, Try.ntmps20
  go_wp2
  repeat (go_quiet (fail); try go_wp2)
  go_ret
  exact ⟨by first | rfl | (simp; done) | (simp [*]; done), by repeat (first | exact Drawn0.refl _ | apply Drawn0.step)⟩

end Go.Proofs.Ytgelpccjdndfoaa.P
