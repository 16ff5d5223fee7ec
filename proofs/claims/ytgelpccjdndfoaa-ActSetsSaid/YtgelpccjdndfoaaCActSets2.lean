/- Part of the proof of the law ActSets: the functions that it reaches, by contract. -/
import Derived.Deep.Slices
import Derived.Test.YtgelpccjdndfoaaCActSets0
import Derived.Test.YtgelpccjdndfoaaCActSets1
set_option linter.unusedVariables false
set_option linter.unusedSimpArgs false
namespace Go.Proofs.Ytgelpccjdndfoaa.P
open Go.RowKit Go.Proofs.YtgelpccjdndfoaaW.PrintWords Go.Proofs.YtgelpccjdndfoaaW.PrintLast Go.Proofs.YtgelpccjdndfoaaW.PrintMore
attribute [local go_sem] max2_int min2_int max_two min_two max_three min_three max_four min_four
/-! ### dragomanlaw12_ActSets: function 4 -/
def q17z.j0 : Nat → Int → Bool → Int → Int → List Int → List (S53) → Int → Int → List Int → List Int → Int → Int → Int → Int → Option (Bool)
 | 0, _, _, _, _, _, _, _, _, _, _, _, _, _, _ => none
 | k + 1, x5, x21, x2000, x2001, x2002, x2003, x3000, x3001, x3002, x3003, x3004, x3005, x3006, x3007 => if x21 = true then (some true) else ((q8z.f k x2000 x2001 x2002 x2003 x3000 x3001 x3002 x3003 x3004 x3005 x3006 x3007).bind fun bt7 => (if x2000 = 1 then (some (bt7.2.2.2.2.1 == x2001)) else (if x2000 = 2 then (some (bt7.2.2.2.2.2.1 == x2001)) else (if x2000 = 3 then (some (bt7.2.2.2.2.2.2.1 == (wrap64 (x2001)))) else (if x2000 = 4 then (some (bt7.2.2.2.2.2.2.2 == x2001)) else (if x2000 = 5 then (if 0 ≤ (x2002.length : Int) then (if (x2002.length : Int) ≤ (bt7.2.2.1.length : Int) then ((q9z.f k (bt7.2.2.1.take ((x2002.length : Int) : Int).toNat) x2002).bind fun t24 => (if t24 = true then ((q9z.f k (bt7.2.2.1.drop ((x2002.length : Int) : Int).toNat) x3002).bind fun t29 => (some t29)) else (some false))) else (none)) else (none)) else (if x2000 = 6 then ((acts_has.f bt7.2.2.2.1 x5).bind fun t30 => ((acts_has.f x2002 x5).bind fun t31 => (if t31 = true then (some (t30 == true)) else ((acts_has.f x3003 x5).bind fun t32 => (some (t30 == t32)))))) else (if x2000 = 7 then ((acts_has.f bt7.2.2.2.1 x5).bind fun t33 => ((acts_has.f x2002 x5).bind fun t34 => (some (t33 == t34)))) else ((acts_has.f bt7.2.2.2.1 x5).bind fun t35 => ((acts_has.f x3003 x5).bind fun t36 => (if t36 = true then ((q12z.f k x2003 (([x5] : List Int))).bind fun t40 => (some (t35 == (!t40)))) else (some (t35 == false)))))))))))))
def q17z.f (k : Nat) (a0_0 : Int) (a0_1 : Int) (l0_2 : List Int) (l0_3 : List (S53)) (a1_0 : Int) (a1_1 : Int) (l1_2 : List Int) (l1_3 : List Int) (a1_4 : Int) (a1_5 : Int) (a1_6 : Int) (a1_7 : Int) (a2 : Int) : Option (Bool) := (q13z.f k).bind fun t3 => (if t3 = true then ((q16z.f k a0_0 a0_1 l0_2 l0_3).bind fun t4 => (if t4 = true then (q17z.j0 k a2 true a0_0 a0_1 l0_2 l0_3 a1_0 a1_1 l1_2 l1_3 a1_4 a1_5 a1_6 a1_7) else ((q1z.f a1_0 a1_1 l1_2 l1_3 a1_4 a1_5 a1_6 a1_7).bind fun t5 => (if t5 = true then (q17z.j0 k a2 true a0_0 a0_1 l0_2 l0_3 a1_0 a1_1 l1_2 l1_3 a1_4 a1_5 a1_6 a1_7) else ((q4z.f k a0_0 a0_1 l0_2 l0_3).bind fun t6 => (q17z.j0 k a2 (!t6) a0_0 a0_1 l0_2 l0_3 a1_0 a1_1 l1_2 l1_3 a1_4 a1_5 a1_6 a1_7)))))) else (some false))
theorem q17z.mono_l : ∀ k, (∀ y0 y1 y2 y3 y4 y5 y6 y7 y8 y9 y10 y11 y12 y13, LeO (q17z.j0 k y0 y1 y2 y3 y4 y5 y6 y7 y8 y9 y10 y11 y12 y13) (q17z.j0 (k + 1) y0 y1 y2 y3 y4 y5 y6 y7 y8 y9 y10 y11 y12 y13))
 | 0 => fun _ _ _ _ _ _ _ _ _ _ _ _ _ _ r h => by simp [q17z.j0] at h
 | k + 1 => by
  have ih0 := q17z.mono_l k
  ·
   intro y0 y1 y2 y3 y4 y5 y6 y7 y8 y9 y10 y11 y12 y13
   unfold q17z.j0
   repeat' first
   | (with_reducible exact ih0 _ _ _ _ _ _ _ _ _ _ _ _ _ _)
   | (with_reducible exact q8z.mono _ _ _ _ _ _ _ _ _ _ _ _ _)
   | (with_reducible exact q4z.mono _ _ _ _ _)
   | (with_reducible exact q13z.mono _)
   | (with_reducible exact q9z.mono _ _ _)
   | (with_reducible exact q12z.mono _ _ _)
   | (with_reducible exact q16z.mono _ _ _ _ _)
   | (with_reducible exact LeO.refl _)
   | (with_reducible exact LeO.none _)
   | (with_reducible refine LeO.ite ?_ ?_)
   | (with_reducible refine LeO.bind ?_ (fun _ => ?_))
   | exact ih0 _ _ _ _ _ _ _ _ _ _ _ _ _ _
   | exact q8z.mono _ _ _ _ _ _ _ _ _ _ _ _ _
   | exact q4z.mono _ _ _ _ _
   | exact q13z.mono _
   | exact q9z.mono _ _ _
   | exact q12z.mono _ _ _
   | exact q16z.mono _ _ _ _ _
   | exact LeO.none _
   | refine LeO.ite ?_ ?_
   | refine LeO.bind ?_ (fun _ => ?_)
theorem q17z.mono : ∀ a0 a1 a2 a3 a4 a5 a6 a7 a8 a9 a10 a11 a12 k, LeO (q17z.f k a0 a1 a2 a3 a4 a5 a6 a7 a8 a9 a10 a11 a12) (q17z.f (k + 1) a0 a1 a2 a3 a4 a5 a6 a7 a8 a9 a10 a11 a12) := by
 intro a0 a1 a2 a3 a4 a5 a6 a7 a8 a9 a10 a11 a12 k
 have ih0 := q17z.mono_l k
 unfold q17z.f
 repeat' first
   | (with_reducible exact ih0 _ _ _ _ _ _ _ _ _ _ _ _ _ _)
   | (with_reducible exact q8z.mono _ _ _ _ _ _ _ _ _ _ _ _ _)
   | (with_reducible exact q4z.mono _ _ _ _ _)
   | (with_reducible exact q13z.mono _)
   | (with_reducible exact q9z.mono _ _ _)
   | (with_reducible exact q12z.mono _ _ _)
   | (with_reducible exact q16z.mono _ _ _ _ _)
   | (with_reducible exact LeO.refl _)
   | (with_reducible exact LeO.none _)
   | (with_reducible refine LeO.ite ?_ ?_)
   | (with_reducible refine LeO.bind ?_ (fun _ => ?_))
   | exact ih0 _ _ _ _ _ _ _ _ _ _ _ _ _ _
   | exact q8z.mono _ _ _ _ _ _ _ _ _ _ _ _ _
   | exact q4z.mono _ _ _ _ _
   | exact q13z.mono _
   | exact q9z.mono _ _ _
   | exact q12z.mono _ _ _
   | exact q16z.mono _ _ _ _ _
   | exact LeO.none _
   | refine LeO.ite ?_ ?_
   | refine LeO.bind ?_ (fun _ => ?_)
def q17z.T17 : Bool × List (List Nat × List Nat) := (true, [([], []), ([0], [0]), ([], []), ([2], [2]), ([3], [3]), ([1, 4], [1, 4]), ([], []), ([6], [6]), ([5, 7], [5, 7]), ([8, 8], [8]), ([9], [9]), ([10, 9], [9, 10]), ([9], [9]), ([12, 9], [9, 12]), ([13, 9], [9, 13]), ([11, 14, 9], [9, 11, 14]), ([9], [9]), ([16, 9], [9, 16]), ([15, 17, 9, 9], [9, 15, 17]), ([9, 18], [9, 18]), ([19, 18, 0, 1, 2, 3, 4, 5, 6, 7, 8, 9, 10, 11, 12, 13, 14, 15, 16, 17, 18, 19], [19])])
def q17z.B17 : List Nat := [0, 1, 0, 4, 12, 31, 0, 64, 255, 511, 1023, 2047, 1023, 5119, 13311, 32767, 1023, 66559, 262143, 524287, 1048575]
theorem q17z.tab17 : rtab .any (opsOf Try.f4 17) = q17z.T17 := by kernel_rfl
theorem q17z.bits17 : waitsOk q17z.T17.2 q17z.B17 = true := by kernel_rfl
def q17z.T19 : Bool × List (List Nat × List Nat) := (true, [([], []), ([], []), ([1], [1]), ([0, 2], [0, 2]), ([], []), ([], []), ([5], [5]), ([4, 6, 3], [4, 6]), ([7, 7], [7]), ([8], [8]), ([8], [8]), ([10, 8], [8, 10]), ([9, 11, 8, 8], [8, 9, 11]), ([8, 12], [8, 12]), ([3, 13], [3, 13]), ([14, 12, 0, 1, 2, 3, 4, 5, 6, 7, 8, 9, 10, 11, 12, 13, 14], [14])])
def q17z.B19 : List Nat := [0, 0, 2, 7, 0, 0, 32, 127, 255, 511, 511, 1535, 4095, 8191, 16383, 32767]
theorem q17z.tab19 : rtab .any (opsOf Try.f4 19) = q17z.T19 := by kernel_rfl
theorem q17z.bits19 : waitsOk q17z.T19.2 q17z.B19 = true := by kernel_rfl
def q17z.T21 : Bool × List (List Nat × List Nat) := (true, [([], []), ([], []), ([1], [1]), ([0, 2], [0, 2]), ([], []), ([], []), ([5], [5]), ([4, 6, 3], [4, 6]), ([3, 7], [3, 7]), ([8, 7, 0, 1, 2, 3, 4, 5, 6, 7, 8], [8])])
def q17z.B21 : List Nat := [0, 0, 2, 7, 0, 0, 32, 127, 255, 511]
theorem q17z.tab21 : rtab .any (opsOf Try.f4 21) = q17z.T21 := by kernel_rfl
theorem q17z.bits21 : waitsOk q17z.T21.2 q17z.B21 = true := by kernel_rfl
def q17z.T22 : Bool × List (List Nat × List Nat) := (true, [([], []), ([], []), ([1], [1]), ([0, 2], [0, 2]), ([], []), ([], []), ([5], [5]), ([4, 6, 3], [4, 6]), ([7, 7], [7]), ([8], [8]), ([9, 8], [8, 9]), ([8], [8]), ([11, 8], [8, 11]), ([10, 12, 8, 8], [8, 10, 12]), ([13, 8], [8, 13]), ([8, 14], [8, 14]), ([3, 15], [3, 15]), ([16, 13, 0, 1, 2, 3, 4, 5, 6, 7, 8, 9, 10, 11, 12, 13, 14, 15, 16], [16])])
def q17z.B22 : List Nat := [0, 0, 2, 7, 0, 0, 32, 127, 255, 511, 1023, 511, 2559, 8191, 16383, 32767, 65535, 131071]
theorem q17z.tab22 : rtab .any (opsOf Try.f4 22) = q17z.T22 := by kernel_rfl
theorem q17z.bits22 : waitsOk q17z.T22.2 q17z.B22 = true := by kernel_rfl
set_option maxHeartbeats 8000000 in
set_option maxRecDepth 100000 in
theorem q17z.calls (k : Nat) (a0_0 : Int) (a0_1 : Int) (A0_2 : Option Addr) (c0_2 : Nat) (l0_2 : List Int) (A0_3 : Option Addr) (c0_3 : Nat) (l0_3 : List (S53)) (a1_0 : Int) (a1_1 : Int) (A1_2 : Option Addr) (c1_2 : Nat) (l1_2 : List Int) (A1_3 : Option Addr) (c1_3 : Nat) (l1_3 : List Int) (a1_4 : Int) (a1_5 : Int) (a1_6 : Int) (a1_7 : Int) (a2 : Int) (r : Bool) (w : World) (hr0_2 : Kd.C (Kd.int .u32) w A0_2 l0_2.length l0_2) (hc0_2 : l0_2.length ≤ c0_2) (hr0_3 : Kd.C k53 w A0_3 l0_3.length l0_3) (hc0_3 : l0_3.length ≤ c0_3) (hr1_2 : Kd.C (Kd.int .u32) w A1_2 l1_2.length l1_2) (hc1_2 : l1_2.length ≤ c1_2) (hr1_3 : Kd.C (Kd.int .u32) w A1_3 l1_3.length l1_3) (hc1_3 : l1_3.length ≤ c1_3) (h : q17z.f k a0_0 a0_1 l0_2 l0_3 a1_0 a1_1 l1_2 l1_3 a1_4 a1_5 a1_6 a1_7 a2 = some r) :
  Calls Try.prog 4 #[.agg #[.int .i64 a0_0, .int .u32 a0_1, .slice A0_2 l0_2.length c0_2, .slice A0_3 l0_3.length c0_3], .agg #[.int .u32 a1_0, .int .i64 a1_1, .slice A1_2 l1_2.length c1_2, .slice A1_3 l1_3.length c1_3, .int .u32 a1_4, .int .u32 a1_5, .int .i64 a1_6, .int .u32 a1_7], .int .u32 a2] w fun e w' => e = .returned (.bool r) ∧ Below w.heap.size w w' := by
 have hu26 := Try.underlying26
 have hu30 := Try.underlying30
 have HR0_2 := Aside0.mk hr0_2
 have HC0_2 := Aside0.mk hc0_2
 clear hr0_2 hc0_2
 have HR0_3 := Aside0.mk hr0_3
 have HC0_3 := Aside0.mk hc0_3
 clear hr0_3 hc0_3
 have HR1_2 := Aside0.mk hr1_2
 have HC1_2 := Aside0.mk hc1_2
 clear hr1_2 hc1_2
 have HR1_3 := Aside0.mk hr1_3
 have HC1_3 := Aside0.mk hc1_3
 clear hr1_3 hc1_3
 have HB := Aside0.mk (Below.refl w.heap.size w)
 have H : ((q13z.f k).bind fun t3 => (if t3 = true then ((q16z.f k a0_0 a0_1 l0_2 l0_3).bind fun t4 => (if t4 = true then (q17z.j0 k a2 true a0_0 a0_1 l0_2 l0_3 a1_0 a1_1 l1_2 l1_3 a1_4 a1_5 a1_6 a1_7) else ((q1z.f a1_0 a1_1 l1_2 l1_3 a1_4 a1_5 a1_6 a1_7).bind fun t5 => (if t5 = true then (q17z.j0 k a2 true a0_0 a0_1 l0_2 l0_3 a1_0 a1_1 l1_2 l1_3 a1_4 a1_5 a1_6 a1_7) else ((q4z.f k a0_0 a0_1 l0_2 l0_3).bind fun t6 => (q17z.j0 k a2 (!t6) a0_0 a0_1 l0_2 l0_3 a1_0 a1_1 l1_2 l1_3 a1_4 a1_5 a1_6 a1_7)))))) else (some false))) = some r := h
 clear h
 replace H := Option.bind_eq_some_iff.mp H
 obtain ⟨t3, A40, H⟩ := H
 replace H : (if t3 = true then ((q16z.f k a0_0 a0_1 l0_2 l0_3).bind fun t4 => (if t4 = true then (q17z.j0 k a2 true a0_0 a0_1 l0_2 l0_3 a1_0 a1_1 l1_2 l1_3 a1_4 a1_5 a1_6 a1_7) else ((q1z.f a1_0 a1_1 l1_2 l1_3 a1_4 a1_5 a1_6 a1_7).bind fun t5 => (if t5 = true then (q17z.j0 k a2 true a0_0 a0_1 l0_2 l0_3 a1_0 a1_1 l1_2 l1_3 a1_4 a1_5 a1_6 a1_7) else ((q4z.f k a0_0 a0_1 l0_2 l0_3).bind fun t6 => (q17z.j0 k a2 (!t6) a0_0 a0_1 l0_2 l0_3 a1_0 a1_1 l1_2 l1_3 a1_4 a1_5 a1_6 a1_7)))))) else (some false)) = some r := H
 have A4 := Aside0.mk A40
 clear A40
 by_cases c5 : t3 = true
 ·
  subst c5
  have H1 : ((q16z.f k a0_0 a0_1 l0_2 l0_3).bind fun t4 => (if t4 = true then (q17z.j0 k a2 true a0_0 a0_1 l0_2 l0_3 a1_0 a1_1 l1_2 l1_3 a1_4 a1_5 a1_6 a1_7) else ((q1z.f a1_0 a1_1 l1_2 l1_3 a1_4 a1_5 a1_6 a1_7).bind fun t5 => (if t5 = true then (q17z.j0 k a2 true a0_0 a0_1 l0_2 l0_3 a1_0 a1_1 l1_2 l1_3 a1_4 a1_5 a1_6 a1_7) else ((q4z.f k a0_0 a0_1 l0_2 l0_3).bind fun t6 => (q17z.j0 k a2 (!t6) a0_0 a0_1 l0_2 l0_3 a1_0 a1_1 l1_2 l1_3 a1_4 a1_5 a1_6 a1_7)))))) = some r := by rw [if_pos rfl] at H; exact H
  clear H
  have H := H1
  clear H1
  have HC6 := Aside0.mk H
  clear H
  go_enter Try.func4, Try.ntmps4
  go_upto_region 3 with (first | ((with_reducible refine gate_dst (N := 3) rfl ?_); (try (refine gate_guard (by rfl) ?_; dsimp only)); refine box_event ?hg (N := 3) ?hd (cs := #[.int .i64 a0_0, .int .u32 a0_1, .slice A0_2 l0_2.length c0_2, .slice A0_3 l0_3.length c0_3]) (t := 26) ?hr ?_; (case hd => rfl); (case hg => rfl); (case hr => first | (go_simp; done) | (go_simp; rfl)); intro gb1 hg w7 hbox hb; have BK1 := Aside0.mk (hbox); have GW1 := gwS hg HB; have GE1 := gwS hg HB; replace HB := hbS HB hb; clear hb hbox hg) | ((with_reducible refine gate_dst (N := 4) rfl ?_); (try (refine gate_guard (by rfl) ?_; dsimp only)); refine box_event ?hg (N := 4) ?hd (cs := #[.int .u32 a1_0, .int .i64 a1_1, .slice A1_2 l1_2.length c1_2, .slice A1_3 l1_3.length c1_3, .int .u32 a1_4, .int .u32 a1_5, .int .i64 a1_6, .int .u32 a1_7]) (t := 30) ?hr ?_; (case hd => rfl); (case hg => rfl); (case hr => first | (go_simp; done) | (go_simp; rfl)); intro gb2 hg w8 hbox hb; have BK2 := Aside0.mk (hbox); have GW2 := gwS hg HB; have GE2 := gwS hg HB; have NB1_2 := nbL hg BK1; have NB2_1 := nbG hg BK1; replace BK1 := bkB BK1 hb; replace HB := hbS HB hb; clear hb hbox hg) | ((with_reducible refine gate_dst (N := 5) rfl ?_); (try (refine gate_guard (by rfl) ?_; dsimp only)); refine box_event ?hg (N := 5) ?hd (cs := #[.int .u32 a2]) (t := 22) ?hr ?_; (case hd => rfl); (case hg => rfl); (case hr => first | (go_simp; done) | (go_simp; rfl)); intro gb5 hg w5_ hbox hb; have BK5 := Aside0.mk (hbox); have NB1_5 := nbL hg BK1; have NB5_1 := nbG hg BK1; have NB2_5 := nbL hg BK2; have NB5_2 := nbG hg BK2; replace BK1 := bkB BK1 hb; replace BK2 := bkB BK2 hb; replace HB := hbS HB hb; clear hb hbox hg) | ((with_reducible refine gate_callee (f := 8) rfl ?_); refine goesL_ (some 9) rfl rfl Try.func8 (by kernel_rfl) rfl #[] rfl (by (try simp only [List.map_toArray, List.map_cons, List.map_nil]); first | done | rfl | (simp only [List.length_drop, List.length_take]; rfl)) ?_; (with_reducible refine (q13z.calls k  true _ A4.out).mono ?_); rintro e w9 ⟨rfl, hb⟩; refine ⟨_, rfl, ?_⟩; replace BK1 := bkB BK1 hb; replace BK5 := bkB BK5 hb; replace BK2 := bkB BK2 hb; replace HB := hbS HB hb; (try clear hb)))
  (try simp only [Act.put, List.setIfInBounds_toArray, List.set_cons_zero, List.set_cons_succ])
  go_cut [21] (fun v21 wc => ∃ (kq : Nat) (x21_5 : Bool), v21 = .bool x21_5 ∧ Aside0 (q17z.j0 kq a2 x21_5 a0_0 a0_1 l0_2 l0_3 a1_0 a1_1 l1_2 l1_3 a1_4 a1_5 a1_6 a1_7 = some r) ∧ Aside0 (kq ≤ k) ∧ Aside0 (wc.heap[gb1]? = some (.cells #[.int .i64 a0_0, .int .u32 a0_1, (.slice A0_2 l0_2.length c0_2), (.slice A0_3 l0_3.length c0_3)] 26 (0, 0))) ∧ Aside0 (wc.heap[gb2]? = some (.cells #[.int .u32 a1_0, .int .i64 a1_1, (.slice A1_2 l1_2.length c1_2), (.slice A1_3 l1_3.length c1_3), .int .u32 a1_4, .int .u32 a1_5, .int .i64 a1_6, .int .u32 a1_7] 30 (0, 0))) ∧ Aside0 (wc.heap[gb5]? = some (.cells #[.int .u32 a2] 22 (0, 0))) ∧ Aside0 (Below w.heap.size w wc))
  case first =>
   have H := HC6.out
   clear HC6
   replace H := Option.bind_eq_some_iff.mp H
   obtain ⟨t4, A100, H⟩ := H
   replace H : (if t4 = true then (q17z.j0 k a2 true a0_0 a0_1 l0_2 l0_3 a1_0 a1_1 l1_2 l1_3 a1_4 a1_5 a1_6 a1_7) else ((q1z.f a1_0 a1_1 l1_2 l1_3 a1_4 a1_5 a1_6 a1_7).bind fun t5 => (if t5 = true then (q17z.j0 k a2 true a0_0 a0_1 l0_2 l0_3 a1_0 a1_1 l1_2 l1_3 a1_4 a1_5 a1_6 a1_7) else ((q4z.f k a0_0 a0_1 l0_2 l0_3).bind fun t6 => (q17z.j0 k a2 (!t6) a0_0 a0_1 l0_2 l0_3 a1_0 a1_1 l1_2 l1_3 a1_4 a1_5 a1_6 a1_7))))) = some r := H
   have A10 := Aside0.mk A100
   clear A100
   by_cases c11 : t4 = true
   ·
    subst c11
    have H1 : (q17z.j0 k a2 true a0_0 a0_1 l0_2 l0_3 a1_0 a1_1 l1_2 l1_3 a1_4 a1_5 a1_6 a1_7) = some r := by rw [if_pos rfl] at H; exact H
    clear H
    have H := H1
    clear H1
    have H' := Aside0.mk H
    clear H
    have hnb12 := NB1_2.out
    have hnc12 := NB2_1.out
    obtain ⟨hcz13_0, hcz13_1, hcz13_2, hcz13_3, hfz13_0, hfz13_1, hfz13_2, hfz13_3⟩ := bc4 BK1
    go_wp2_with (first | ((with_reducible refine gate_callee (f := 9) rfl ?_); refine goesL_ (some 12) rfl rfl Try.func9 (by kernel_rfl) rfl #[.agg #[.int .i64 a0_0, .int .u32 a0_1, .slice A0_2 l0_2.length c0_2, .slice A0_3 l0_3.length c0_3]] rfl (by (try simp only [List.map_toArray, List.map_cons, List.map_nil]); first | done | rfl | (simp only [List.length_drop, List.length_take]; rfl)) ?_; (with_reducible refine (q16z.calls k a0_0 a0_1 _ _ l0_2 _ _ l0_3 true _ ?side1 ?side2 ?side3 ?side4 A10.out).mono ?_); (case side1 => repeat (first | exact (Kd.C_below HR0_2.out HB.out) | (with_reducible refine Kd.C_alloc ?_ _) | (with_reducible refine Kd.C_drewN ?_ _) | (with_reducible refine Kd.C_drew ?_))); (case side2 => exact HC0_2.out); (case side3 => repeat (first | exact (Kd.C_below HR0_3.out HB.out) | (with_reducible refine Kd.C_alloc ?_ _) | (with_reducible refine Kd.C_drewN ?_ _) | (with_reducible refine Kd.C_drew ?_))); (case side4 => exact HC0_3.out); rintro e w14 ⟨rfl, hb⟩; refine ⟨_, rfl, ?_⟩; replace BK1 := bkB BK1 hb; replace BK5 := bkB BK5 hb; replace BK2 := bkB BK2 hb; replace HB := hbS HB hb; (try clear hb)))
    go_meet
    case rel => exact ⟨_, (true), (by first | rfl | (simp; done) | (simp [*]; done)), H', ⟨by first | omega | exact Nat.le_refl _⟩, ⟨by (with_reducible repeat (first | refine blk_drewN ?_ _ | refine blk_drew ?_ | refine blk_alloc ?_ _)); exact BK1.out⟩, ⟨by (with_reducible repeat (first | refine blk_drewN ?_ _ | refine blk_drew ?_ | refine blk_alloc ?_ _)); exact BK2.out⟩, ⟨bkW BK5⟩, ⟨hbW HB⟩⟩
   ·
    replace c11 := Bool.eq_false_iff.mpr c11
    subst c11
    have H1 : ((q1z.f a1_0 a1_1 l1_2 l1_3 a1_4 a1_5 a1_6 a1_7).bind fun t5 => (if t5 = true then (q17z.j0 k a2 true a0_0 a0_1 l0_2 l0_3 a1_0 a1_1 l1_2 l1_3 a1_4 a1_5 a1_6 a1_7) else ((q4z.f k a0_0 a0_1 l0_2 l0_3).bind fun t6 => (q17z.j0 k a2 (!t6) a0_0 a0_1 l0_2 l0_3 a1_0 a1_1 l1_2 l1_3 a1_4 a1_5 a1_6 a1_7)))) = some r := by rw [if_neg (show ¬ (false = true) by decide)] at H; exact H
    clear H
    have H := H1
    clear H1
    replace H := Option.bind_eq_some_iff.mp H
    obtain ⟨t5, A150, H⟩ := H
    replace H : (if t5 = true then (q17z.j0 k a2 true a0_0 a0_1 l0_2 l0_3 a1_0 a1_1 l1_2 l1_3 a1_4 a1_5 a1_6 a1_7) else ((q4z.f k a0_0 a0_1 l0_2 l0_3).bind fun t6 => (q17z.j0 k a2 (!t6) a0_0 a0_1 l0_2 l0_3 a1_0 a1_1 l1_2 l1_3 a1_4 a1_5 a1_6 a1_7))) = some r := H
    have A15 := Aside0.mk A150
    clear A150
    by_cases c16 : t5 = true
    ·
     subst c16
     have H1 : (q17z.j0 k a2 true a0_0 a0_1 l0_2 l0_3 a1_0 a1_1 l1_2 l1_3 a1_4 a1_5 a1_6 a1_7) = some r := by rw [if_pos rfl] at H; exact H
     clear H
     have H := H1
     clear H1
     have H' := Aside0.mk H
     clear H
     have hnb17 := NB1_2.out
     have hnc17 := NB2_1.out
     obtain ⟨hcz18_0, hcz18_1, hcz18_2, hcz18_3, hfz18_0, hfz18_1, hfz18_2, hfz18_3⟩ := bc4 BK1
     go_wp2_with (first | ((with_reducible refine gate_callee (f := 9) rfl ?_); refine goesL_ (some 12) rfl rfl Try.func9 (by kernel_rfl) rfl #[.agg #[.int .i64 a0_0, .int .u32 a0_1, .slice A0_2 l0_2.length c0_2, .slice A0_3 l0_3.length c0_3]] rfl (by (try simp only [List.map_toArray, List.map_cons, List.map_nil]); first | done | rfl | (simp only [List.length_drop, List.length_take]; rfl)) ?_; (with_reducible refine (q16z.calls k a0_0 a0_1 _ _ l0_2 _ _ l0_3 false _ ?side1 ?side2 ?side3 ?side4 A10.out).mono ?_); (case side1 => repeat (first | exact (Kd.C_below HR0_2.out HB.out) | (with_reducible refine Kd.C_alloc ?_ _) | (with_reducible refine Kd.C_drewN ?_ _) | (with_reducible refine Kd.C_drew ?_))); (case side2 => exact HC0_2.out); (case side3 => repeat (first | exact (Kd.C_below HR0_3.out HB.out) | (with_reducible refine Kd.C_alloc ?_ _) | (with_reducible refine Kd.C_drewN ?_ _) | (with_reducible refine Kd.C_drew ?_))); (case side4 => exact HC0_3.out); rintro e w19 ⟨rfl, hb⟩; refine ⟨_, rfl, ?_⟩; replace BK1 := bkB BK1 hb; replace BK5 := bkB BK5 hb; replace BK2 := bkB BK2 hb; replace HB := hbS HB hb; (try clear hb); obtain ⟨hcz20_0, hcz20_1, hcz20_2, hcz20_3, hcz20_4, hcz20_5, hcz20_6, hcz20_7, hfz20_0, hfz20_1, hfz20_2, hfz20_3, hfz20_4, hfz20_5, hfz20_6, hfz20_7⟩ := bc8 BK2) | (go_at_call 10; (with_reducible refine (q1z.calls a1_0 a1_1 _ _ l1_2 _ _ l1_3 a1_4 a1_5 a1_6 a1_7 true _ ?side1 ?side2 ?side3 ?side4 A15.out).mono ?_); (case side1 => repeat (first | exact (Kd.C_below HR1_2.out HB.out) | (with_reducible refine Kd.C_alloc ?_ _) | (with_reducible refine Kd.C_drewN ?_ _) | (with_reducible refine Kd.C_drew ?_))); (case side2 => exact HC1_2.out); (case side3 => repeat (first | exact (Kd.C_below HR1_3.out HB.out) | (with_reducible refine Kd.C_alloc ?_ _) | (with_reducible refine Kd.C_drewN ?_ _) | (with_reducible refine Kd.C_drew ?_))); (case side4 => exact HC1_3.out); rintro e w21 ⟨rfl, hb⟩; replace BK1 := bkB BK1 hb; replace BK5 := bkB BK5 hb; replace BK2 := bkB BK2 hb; replace HB := hbS HB hb; (try clear hb)))
     go_meet
     case rel => exact ⟨_, (true), (by first | rfl | (simp; done) | (simp [*]; done)), H', ⟨by first | omega | exact Nat.le_refl _⟩, ⟨by (with_reducible repeat (first | refine blk_drewN ?_ _ | refine blk_drew ?_ | refine blk_alloc ?_ _)); exact BK1.out⟩, ⟨by (with_reducible repeat (first | refine blk_drewN ?_ _ | refine blk_drew ?_ | refine blk_alloc ?_ _)); exact BK2.out⟩, ⟨bkW BK5⟩, ⟨hbW HB⟩⟩
    ·
     replace c16 := Bool.eq_false_iff.mpr c16
     subst c16
     have H1 : ((q4z.f k a0_0 a0_1 l0_2 l0_3).bind fun t6 => (q17z.j0 k a2 (!t6) a0_0 a0_1 l0_2 l0_3 a1_0 a1_1 l1_2 l1_3 a1_4 a1_5 a1_6 a1_7)) = some r := by rw [if_neg (show ¬ (false = true) by decide)] at H; exact H
     clear H
     have H := H1
     clear H1
     replace H := Option.bind_eq_some_iff.mp H
     obtain ⟨t6, A220, H⟩ := H
     replace H : (q17z.j0 k a2 (!t6) a0_0 a0_1 l0_2 l0_3 a1_0 a1_1 l1_2 l1_3 a1_4 a1_5 a1_6 a1_7) = some r := H
     have A22 := Aside0.mk A220
     clear A220
     have H' := Aside0.mk H
     clear H
     have hnb23 := NB1_2.out
     have hnc23 := NB2_1.out
     obtain ⟨hcz24_0, hcz24_1, hcz24_2, hcz24_3, hfz24_0, hfz24_1, hfz24_2, hfz24_3⟩ := bc4 BK1
     go_wp2_with (first | ((with_reducible refine gate_callee (f := 9) rfl ?_); refine goesL_ (some 12) rfl rfl Try.func9 (by kernel_rfl) rfl #[.agg #[.int .i64 a0_0, .int .u32 a0_1, .slice A0_2 l0_2.length c0_2, .slice A0_3 l0_3.length c0_3]] rfl (by (try simp only [List.map_toArray, List.map_cons, List.map_nil]); first | done | rfl | (simp only [List.length_drop, List.length_take]; rfl)) ?_; (with_reducible refine (q16z.calls k a0_0 a0_1 _ _ l0_2 _ _ l0_3 false _ ?side1 ?side2 ?side3 ?side4 A10.out).mono ?_); (case side1 => repeat (first | exact (Kd.C_below HR0_2.out HB.out) | (with_reducible refine Kd.C_alloc ?_ _) | (with_reducible refine Kd.C_drewN ?_ _) | (with_reducible refine Kd.C_drew ?_))); (case side2 => exact HC0_2.out); (case side3 => repeat (first | exact (Kd.C_below HR0_3.out HB.out) | (with_reducible refine Kd.C_alloc ?_ _) | (with_reducible refine Kd.C_drewN ?_ _) | (with_reducible refine Kd.C_drew ?_))); (case side4 => exact HC0_3.out); rintro e w25 ⟨rfl, hb⟩; refine ⟨_, rfl, ?_⟩; replace BK1 := bkB BK1 hb; replace BK5 := bkB BK5 hb; replace BK2 := bkB BK2 hb; replace HB := hbS HB hb; (try clear hb); obtain ⟨hcz26_0, hcz26_1, hcz26_2, hcz26_3, hcz26_4, hcz26_5, hcz26_6, hcz26_7, hfz26_0, hfz26_1, hfz26_2, hfz26_3, hfz26_4, hfz26_5, hfz26_6, hfz26_7⟩ := bc8 BK2) | (go_at_call 10; (with_reducible refine (q1z.calls a1_0 a1_1 _ _ l1_2 _ _ l1_3 a1_4 a1_5 a1_6 a1_7 false _ ?side1 ?side2 ?side3 ?side4 A15.out).mono ?_); (case side1 => repeat (first | exact (Kd.C_below HR1_2.out HB.out) | (with_reducible refine Kd.C_alloc ?_ _) | (with_reducible refine Kd.C_drewN ?_ _) | (with_reducible refine Kd.C_drew ?_))); (case side2 => exact HC1_2.out); (case side3 => repeat (first | exact (Kd.C_below HR1_3.out HB.out) | (with_reducible refine Kd.C_alloc ?_ _) | (with_reducible refine Kd.C_drewN ?_ _) | (with_reducible refine Kd.C_drew ?_))); (case side4 => exact HC1_3.out); rintro e w27 ⟨rfl, hb⟩; replace BK1 := bkB BK1 hb; replace BK5 := bkB BK5 hb; replace BK2 := bkB BK2 hb; replace HB := hbS HB hb; (try clear hb); obtain ⟨hcz28_0, hcz28_1, hcz28_2, hcz28_3, hfz28_0, hfz28_1, hfz28_2, hfz28_3⟩ := bc4 BK1) | (go_at_call 14; (with_reducible refine (q4z.calls k a0_0 a0_1 _ _ l0_2 _ _ l0_3 t6 _ ?side1 ?side2 ?side3 ?side4 A22.out).mono ?_); (case side1 => repeat (first | exact (Kd.C_below HR0_2.out HB.out) | (with_reducible refine Kd.C_alloc ?_ _) | (with_reducible refine Kd.C_drewN ?_ _) | (with_reducible refine Kd.C_drew ?_))); (case side2 => exact HC0_2.out); (case side3 => repeat (first | exact (Kd.C_below HR0_3.out HB.out) | (with_reducible refine Kd.C_alloc ?_ _) | (with_reducible refine Kd.C_drewN ?_ _) | (with_reducible refine Kd.C_drew ?_))); (case side4 => exact HC0_3.out); rintro e w29 ⟨rfl, hb⟩; replace BK1 := bkB BK1 hb; replace BK5 := bkB BK5 hb; replace BK2 := bkB BK2 hb; replace HB := hbS HB hb; (try clear hb)))
     go_meet
     case rel => exact ⟨_, (!t6), (by first | rfl | (simp; done) | (simp [*]; done)), H', ⟨by first | omega | exact Nat.le_refl _⟩, ⟨by (with_reducible repeat (first | refine blk_drewN ?_ _ | refine blk_drew ?_ | refine blk_alloc ?_ _)); exact BK1.out⟩, ⟨by (with_reducible repeat (first | refine blk_drewN ?_ _ | refine blk_drew ?_ | refine blk_alloc ?_ _)); exact BK2.out⟩, ⟨bkW BK5⟩, ⟨hbW HB⟩⟩
  case rest =>
   clear HC6
   try clear c1
   try clear c2
   try clear p2
   try clear c4
   try clear c5
   try clear c8
   try clear c9
   try clear c11
   try clear c12
   try clear c16
   try clear c17
   try clear c23
   obtain ⟨kq, x21_5, rfl, HA, HJ5, BK1, BK2, BK5, HB⟩ := hcut
   cases kq with
   | zero => exact absurd HA.out (by simp [q17z.j0])
   | succ kj5 =>
    have H := HA.out
    clear HA
    simp only [q17z.j0] at H
    by_cases c30 : x21_5 = true
    ·
     subst c30
     have H1 : (some true) = some r := by rw [if_pos rfl] at H; exact H
     clear H
     have H := H1
     clear H1
     obtain rfl := Option.some.inj H
     go_wp2
     go_ret
     exact ⟨by first | rfl | (simp [errW_none, errW_some] <;> rfl) | (simp [*, errW_none, errW_some] <;> rfl), hbW HB⟩
    ·
     replace c30 := Bool.eq_false_iff.mpr c30
     subst c30
     have H1 : ((q8z.f kj5 a0_0 a0_1 l0_2 l0_3 a1_0 a1_1 l1_2 l1_3 a1_4 a1_5 a1_6 a1_7).bind fun bt7 => (if a0_0 = 1 then (some (bt7.2.2.2.2.1 == a0_1)) else (if a0_0 = 2 then (some (bt7.2.2.2.2.2.1 == a0_1)) else (if a0_0 = 3 then (some (bt7.2.2.2.2.2.2.1 == (wrap64 (a0_1)))) else (if a0_0 = 4 then (some (bt7.2.2.2.2.2.2.2 == a0_1)) else (if a0_0 = 5 then (if 0 ≤ (l0_2.length : Int) then (if (l0_2.length : Int) ≤ (bt7.2.2.1.length : Int) then ((q9z.f kj5 (bt7.2.2.1.take ((l0_2.length : Int) : Int).toNat) l0_2).bind fun t24 => (if t24 = true then ((q9z.f kj5 (bt7.2.2.1.drop ((l0_2.length : Int) : Int).toNat) l1_2).bind fun t29 => (some t29)) else (some false))) else (none)) else (none)) else (if a0_0 = 6 then ((acts_has.f bt7.2.2.2.1 a2).bind fun t30 => ((acts_has.f l0_2 a2).bind fun t31 => (if t31 = true then (some (t30 == true)) else ((acts_has.f l1_3 a2).bind fun t32 => (some (t30 == t32)))))) else (if a0_0 = 7 then ((acts_has.f bt7.2.2.2.1 a2).bind fun t33 => ((acts_has.f l0_2 a2).bind fun t34 => (some (t33 == t34)))) else ((acts_has.f bt7.2.2.2.1 a2).bind fun t35 => ((acts_has.f l1_3 a2).bind fun t36 => (if t36 = true then ((q12z.f kj5 l0_3 (([a2] : List Int))).bind fun t40 => (some (t35 == (!t40)))) else (some (t35 == false))))))))))))) = some r := by rw [if_neg (show ¬ (false = true) by decide)] at H; exact H
     clear H
     have H := H1
     clear H1
     replace H := Option.bind_eq_some_iff.mp H
     obtain ⟨⟨t7, t8, t9, t12, t15, t16, t17, t18⟩, A310, H⟩ := H
     replace H : (if a0_0 = 1 then (some (t15 == a0_1)) else (if a0_0 = 2 then (some (t16 == a0_1)) else (if a0_0 = 3 then (some (t17 == (wrap64 (a0_1)))) else (if a0_0 = 4 then (some (t18 == a0_1)) else (if a0_0 = 5 then (if 0 ≤ (l0_2.length : Int) then (if (l0_2.length : Int) ≤ (t9.length : Int) then ((q9z.f kj5 (t9.take ((l0_2.length : Int) : Int).toNat) l0_2).bind fun t24 => (if t24 = true then ((q9z.f kj5 (t9.drop ((l0_2.length : Int) : Int).toNat) l1_2).bind fun t29 => (some t29)) else (some false))) else (none)) else (none)) else (if a0_0 = 6 then ((acts_has.f t12 a2).bind fun t30 => ((acts_has.f l0_2 a2).bind fun t31 => (if t31 = true then (some (t30 == true)) else ((acts_has.f l1_3 a2).bind fun t32 => (some (t30 == t32)))))) else (if a0_0 = 7 then ((acts_has.f t12 a2).bind fun t33 => ((acts_has.f l0_2 a2).bind fun t34 => (some (t33 == t34)))) else ((acts_has.f t12 a2).bind fun t35 => ((acts_has.f l1_3 a2).bind fun t36 => (if t36 = true then ((q12z.f kj5 l0_3 (([a2] : List Int))).bind fun t40 => (some (t35 == (!t40)))) else (some (t35 == false)))))))))))) = some r := H
     have A31 := Aside0.mk A310
     clear A310
     by_cases c32 : a0_0 = 1
     ·
      rw [if_pos c32] at H
      have c32b0 : (a0_0 == 1) = true := beq_iff_eq.mpr c32
      have c32b1 : (a0_0 != 1) = false := bne_eq_false_iff_eq.mpr c32
      clear c32
      obtain rfl := Option.some.inj H
      have hnb33 := NB1_2.out
      have hnc33 := NB2_1.out
      obtain ⟨hcz34_0, hcz34_1, hcz34_2, hcz34_3, hfz34_0, hfz34_1, hfz34_2, hfz34_3⟩ := bc4 BK1
      obtain ⟨hcz35_0, hcz35_1, hcz35_2, hcz35_3, hcz35_4, hcz35_5, hcz35_6, hcz35_7, hfz35_0, hfz35_1, hfz35_2, hfz35_3, hfz35_4, hfz35_5, hfz35_6, hfz35_7⟩ := bc8 BK2
      go_wp2_with (first | ((with_reducible refine gate_callee (f := 13) rfl ?_); refine goesL_ (some 24) rfl rfl Try.func13 (by kernel_rfl) rfl #[.agg #[.int .i64 a0_0, .int .u32 a0_1, .slice A0_2 l0_2.length c0_2, .slice A0_3 l0_3.length c0_3], .agg #[.int .u32 a1_0, .int .i64 a1_1, .slice A1_2 l1_2.length c1_2, .slice A1_3 l1_3.length c1_3, .int .u32 a1_4, .int .u32 a1_5, .int .i64 a1_6, .int .u32 a1_7]] rfl (by (try simp only [List.map_toArray, List.map_cons, List.map_nil]); first | done | rfl | (simp only [List.length_drop, List.length_take]; rfl)) ?_; (with_reducible refine (q8z.calls kj5 a0_0 a0_1 (fun k_ => k_ < w.heap.size) _ _ l0_2 _ _ l0_3 a1_0 a1_1 _ _ l1_2 _ _ l1_3 a1_4 a1_5 a1_6 a1_7 t7 t8 t9 t12 t15 t16 t17 t18 _ ?side1 ?side2 ?side3 ?side4 ?side5 ?side6 ?side7 A31.out).mono ?_); (case side1 => exact Kd.V_mk HC0_2.out (Kd.F_below (Kd.C_F (Kd.heap_int .u32) HR0_2.out) (hbW HB))); (case side2 => repeat (first | exact (Kd.C_below HR0_3.out HB.out) | (with_reducible refine Kd.C_alloc ?_ _) | (with_reducible refine Kd.C_drewN ?_ _) | (with_reducible refine Kd.C_drew ?_))); (case side3 => exact HC0_3.out); (case side4 => repeat (first | exact (Kd.C_below HR1_2.out HB.out) | (with_reducible refine Kd.C_alloc ?_ _) | (with_reducible refine Kd.C_drewN ?_ _) | (with_reducible refine Kd.C_drew ?_))); (case side5 => exact HC1_2.out); (case side6 => repeat (first | exact (Kd.C_below HR1_3.out HB.out) | (with_reducible refine Kd.C_alloc ?_ _) | (with_reducible refine Kd.C_drewN ?_ _) | (with_reducible refine Kd.C_drew ?_))); (case side7 => exact HC1_3.out); rintro e w36 ⟨v10, v13, rfl, ho0, ho1, hb⟩; refine ⟨_, rfl, ?_⟩; have HO11 := Aside0.mk (Kd.R_lower (Kd.R_mono (ok' := fun k_ => some k_ ≠ (v13 : Value).ownBlock) ho0 (fun _ hk_ => hk_.2)) (below_size (hbW HB))); have HO14 := Aside0.mk (Kd.R_lower (Kd.R_mono (ok' := fun k_ => some k_ ≠ (v10 : Value).ownBlock) ho1 (fun _ hk_ => hk_.2)) (below_size (hbW HB))); replace BK1 := bkB BK1 hb; replace BK5 := bkB BK5 hb; replace BK2 := bkB BK2 hb; replace HB := hbS HB hb; (try clear hb); (try clear ho0); (try clear ho1)) | ((with_reducible refine gate_dst (N := 7) rfl ?_); (try (refine gate_guard (by rfl) ?_; dsimp only)); refine box_event ?hg (N := 7) ?hd (cs := #[.int .u32 0, .int .i64 0, .slice none 0 0, .slice none 0 0, .int .u32 0, .int .u32 0, .int .i64 0, .int .u32 0]) (t := 30) ?hr ?_; (case hd => rfl); (case hg => rfl); (case hr => first | (go_simp; done) | (go_simp; rfl)); intro gb19 hg w37 hbox hb; have BK19 := Aside0.mk (hbox); have GW19 := gwS hg HB; have GE19 := gwS hg HB; have NB1_19 := nbL hg BK1; have NB19_1 := nbG hg BK1; have NB5_19 := nbL hg BK5; have NB19_5 := nbG hg BK5; have NB2_19 := nbL hg BK2; have NB19_2 := nbG hg BK2; replace HO11 := Aside0.mk (Kd.R_below (rW HO11) hb); replace HO14 := Aside0.mk (Kd.R_below (rW HO14) hb); replace BK1 := bkB BK1 hb; replace BK5 := bkB BK5 hb; replace BK2 := bkB BK2 hb; replace HB := hbS HB hb; clear hb hbox hg; have hnb38 := NB19_1.out; have hnc38 := NB1_19.out; have hnb39 := NB19_2.out; have hnc39 := NB2_19.out; obtain ⟨hcz40_0, hcz40_1, hcz40_2, hcz40_3, hcz40_4, hcz40_5, hcz40_6, hcz40_7, hfz40_0, hfz40_1, hfz40_2, hfz40_3, hfz40_4, hfz40_5, hfz40_6, hfz40_7⟩ := bc8 BK19; obtain ⟨Ao41, co41, eo41⟩ := Kd.R_slice HO11.out; subst eo41; obtain ⟨Ao42, co42, eo42⟩ := Kd.R_slice HO14.out; subst eo42; obtain ⟨hcz43_0, hcz43_1, hcz43_2, hcz43_3, hfz43_0, hfz43_1, hfz43_2, hfz43_3⟩ := bc4 BK1))
      go_ret
      exact ⟨by first | rfl | (simp [errW_none, errW_some] <;> rfl) | (simp [*, errW_none, errW_some] <;> rfl), hbW HB⟩
     ·
      rw [if_neg c32] at H
      have c32b0 : (a0_0 == 1) = false := beq_eq_false_iff_ne.mpr c32
      have c32b1 : (a0_0 != 1) = true := bne_iff_ne.mpr c32
      by_cases c44 : a0_0 = 2
      ·
       rw [if_pos c44] at H
       have c44b0 : (a0_0 == 2) = true := beq_iff_eq.mpr c44
       have c44b1 : (a0_0 != 2) = false := bne_eq_false_iff_eq.mpr c44
       clear c44
       obtain rfl := Option.some.inj H
       have hnb45 := NB1_2.out
       have hnc45 := NB2_1.out
       obtain ⟨hcz46_0, hcz46_1, hcz46_2, hcz46_3, hfz46_0, hfz46_1, hfz46_2, hfz46_3⟩ := bc4 BK1
       obtain ⟨hcz47_0, hcz47_1, hcz47_2, hcz47_3, hcz47_4, hcz47_5, hcz47_6, hcz47_7, hfz47_0, hfz47_1, hfz47_2, hfz47_3, hfz47_4, hfz47_5, hfz47_6, hfz47_7⟩ := bc8 BK2
       go_wp2_with (first | ((with_reducible refine gate_callee (f := 13) rfl ?_); refine goesL_ (some 24) rfl rfl Try.func13 (by kernel_rfl) rfl #[.agg #[.int .i64 a0_0, .int .u32 a0_1, .slice A0_2 l0_2.length c0_2, .slice A0_3 l0_3.length c0_3], .agg #[.int .u32 a1_0, .int .i64 a1_1, .slice A1_2 l1_2.length c1_2, .slice A1_3 l1_3.length c1_3, .int .u32 a1_4, .int .u32 a1_5, .int .i64 a1_6, .int .u32 a1_7]] rfl (by (try simp only [List.map_toArray, List.map_cons, List.map_nil]); first | done | rfl | (simp only [List.length_drop, List.length_take]; rfl)) ?_; (with_reducible refine (q8z.calls kj5 a0_0 a0_1 (fun k_ => k_ < w.heap.size) _ _ l0_2 _ _ l0_3 a1_0 a1_1 _ _ l1_2 _ _ l1_3 a1_4 a1_5 a1_6 a1_7 t7 t8 t9 t12 t15 t16 t17 t18 _ ?side1 ?side2 ?side3 ?side4 ?side5 ?side6 ?side7 A31.out).mono ?_); (case side1 => exact Kd.V_mk HC0_2.out (Kd.F_below (Kd.C_F (Kd.heap_int .u32) HR0_2.out) (hbW HB))); (case side2 => repeat (first | exact (Kd.C_below HR0_3.out HB.out) | (with_reducible refine Kd.C_alloc ?_ _) | (with_reducible refine Kd.C_drewN ?_ _) | (with_reducible refine Kd.C_drew ?_))); (case side3 => exact HC0_3.out); (case side4 => repeat (first | exact (Kd.C_below HR1_2.out HB.out) | (with_reducible refine Kd.C_alloc ?_ _) | (with_reducible refine Kd.C_drewN ?_ _) | (with_reducible refine Kd.C_drew ?_))); (case side5 => exact HC1_2.out); (case side6 => repeat (first | exact (Kd.C_below HR1_3.out HB.out) | (with_reducible refine Kd.C_alloc ?_ _) | (with_reducible refine Kd.C_drewN ?_ _) | (with_reducible refine Kd.C_drew ?_))); (case side7 => exact HC1_3.out); rintro e w48 ⟨v10, v13, rfl, ho0, ho1, hb⟩; refine ⟨_, rfl, ?_⟩; have HO11 := Aside0.mk (Kd.R_lower (Kd.R_mono (ok' := fun k_ => some k_ ≠ (v13 : Value).ownBlock) ho0 (fun _ hk_ => hk_.2)) (below_size (hbW HB))); have HO14 := Aside0.mk (Kd.R_lower (Kd.R_mono (ok' := fun k_ => some k_ ≠ (v10 : Value).ownBlock) ho1 (fun _ hk_ => hk_.2)) (below_size (hbW HB))); replace BK1 := bkB BK1 hb; replace BK5 := bkB BK5 hb; replace BK2 := bkB BK2 hb; replace HB := hbS HB hb; (try clear hb); (try clear ho0); (try clear ho1)) | ((with_reducible refine gate_dst (N := 7) rfl ?_); (try (refine gate_guard (by rfl) ?_; dsimp only)); refine box_event ?hg (N := 7) ?hd (cs := #[.int .u32 0, .int .i64 0, .slice none 0 0, .slice none 0 0, .int .u32 0, .int .u32 0, .int .i64 0, .int .u32 0]) (t := 30) ?hr ?_; (case hd => rfl); (case hg => rfl); (case hr => first | (go_simp; done) | (go_simp; rfl)); intro gb19 hg w49 hbox hb; have BK19 := Aside0.mk (hbox); have GW19 := gwS hg HB; have GE19 := gwS hg HB; have NB1_19 := nbL hg BK1; have NB19_1 := nbG hg BK1; have NB5_19 := nbL hg BK5; have NB19_5 := nbG hg BK5; have NB2_19 := nbL hg BK2; have NB19_2 := nbG hg BK2; replace HO11 := Aside0.mk (Kd.R_below (rW HO11) hb); replace HO14 := Aside0.mk (Kd.R_below (rW HO14) hb); replace BK1 := bkB BK1 hb; replace BK5 := bkB BK5 hb; replace BK2 := bkB BK2 hb; replace HB := hbS HB hb; clear hb hbox hg; have hnb50 := NB19_1.out; have hnc50 := NB1_19.out; have hnb51 := NB19_2.out; have hnc51 := NB2_19.out; obtain ⟨hcz52_0, hcz52_1, hcz52_2, hcz52_3, hcz52_4, hcz52_5, hcz52_6, hcz52_7, hfz52_0, hfz52_1, hfz52_2, hfz52_3, hfz52_4, hfz52_5, hfz52_6, hfz52_7⟩ := bc8 BK19; obtain ⟨Ao53, co53, eo53⟩ := Kd.R_slice HO11.out; subst eo53; obtain ⟨Ao54, co54, eo54⟩ := Kd.R_slice HO14.out; subst eo54; obtain ⟨hcz55_0, hcz55_1, hcz55_2, hcz55_3, hfz55_0, hfz55_1, hfz55_2, hfz55_3⟩ := bc4 BK1))
       go_ret
       exact ⟨by first | rfl | (simp [errW_none, errW_some] <;> rfl) | (simp [*, errW_none, errW_some] <;> rfl), hbW HB⟩
      ·
       rw [if_neg c44] at H
       have c44b0 : (a0_0 == 2) = false := beq_eq_false_iff_ne.mpr c44
       have c44b1 : (a0_0 != 2) = true := bne_iff_ne.mpr c44
       by_cases c56 : a0_0 = 3
       ·
        rw [if_pos c56] at H
        have c56b0 : (a0_0 == 3) = true := beq_iff_eq.mpr c56
        have c56b1 : (a0_0 != 3) = false := bne_eq_false_iff_eq.mpr c56
        clear c56
        obtain rfl := Option.some.inj H
        have hnb57 := NB1_2.out
        have hnc57 := NB2_1.out
        obtain ⟨hcz58_0, hcz58_1, hcz58_2, hcz58_3, hfz58_0, hfz58_1, hfz58_2, hfz58_3⟩ := bc4 BK1
        obtain ⟨hcz59_0, hcz59_1, hcz59_2, hcz59_3, hcz59_4, hcz59_5, hcz59_6, hcz59_7, hfz59_0, hfz59_1, hfz59_2, hfz59_3, hfz59_4, hfz59_5, hfz59_6, hfz59_7⟩ := bc8 BK2
        go_wp2_with (first | ((with_reducible refine gate_callee (f := 13) rfl ?_); refine goesL_ (some 24) rfl rfl Try.func13 (by kernel_rfl) rfl #[.agg #[.int .i64 a0_0, .int .u32 a0_1, .slice A0_2 l0_2.length c0_2, .slice A0_3 l0_3.length c0_3], .agg #[.int .u32 a1_0, .int .i64 a1_1, .slice A1_2 l1_2.length c1_2, .slice A1_3 l1_3.length c1_3, .int .u32 a1_4, .int .u32 a1_5, .int .i64 a1_6, .int .u32 a1_7]] rfl (by (try simp only [List.map_toArray, List.map_cons, List.map_nil]); first | done | rfl | (simp only [List.length_drop, List.length_take]; rfl)) ?_; (with_reducible refine (q8z.calls kj5 a0_0 a0_1 (fun k_ => k_ < w.heap.size) _ _ l0_2 _ _ l0_3 a1_0 a1_1 _ _ l1_2 _ _ l1_3 a1_4 a1_5 a1_6 a1_7 t7 t8 t9 t12 t15 t16 t17 t18 _ ?side1 ?side2 ?side3 ?side4 ?side5 ?side6 ?side7 A31.out).mono ?_); (case side1 => exact Kd.V_mk HC0_2.out (Kd.F_below (Kd.C_F (Kd.heap_int .u32) HR0_2.out) (hbW HB))); (case side2 => repeat (first | exact (Kd.C_below HR0_3.out HB.out) | (with_reducible refine Kd.C_alloc ?_ _) | (with_reducible refine Kd.C_drewN ?_ _) | (with_reducible refine Kd.C_drew ?_))); (case side3 => exact HC0_3.out); (case side4 => repeat (first | exact (Kd.C_below HR1_2.out HB.out) | (with_reducible refine Kd.C_alloc ?_ _) | (with_reducible refine Kd.C_drewN ?_ _) | (with_reducible refine Kd.C_drew ?_))); (case side5 => exact HC1_2.out); (case side6 => repeat (first | exact (Kd.C_below HR1_3.out HB.out) | (with_reducible refine Kd.C_alloc ?_ _) | (with_reducible refine Kd.C_drewN ?_ _) | (with_reducible refine Kd.C_drew ?_))); (case side7 => exact HC1_3.out); rintro e w60 ⟨v10, v13, rfl, ho0, ho1, hb⟩; refine ⟨_, rfl, ?_⟩; have HO11 := Aside0.mk (Kd.R_lower (Kd.R_mono (ok' := fun k_ => some k_ ≠ (v13 : Value).ownBlock) ho0 (fun _ hk_ => hk_.2)) (below_size (hbW HB))); have HO14 := Aside0.mk (Kd.R_lower (Kd.R_mono (ok' := fun k_ => some k_ ≠ (v10 : Value).ownBlock) ho1 (fun _ hk_ => hk_.2)) (below_size (hbW HB))); replace BK1 := bkB BK1 hb; replace BK5 := bkB BK5 hb; replace BK2 := bkB BK2 hb; replace HB := hbS HB hb; (try clear hb); (try clear ho0); (try clear ho1)) | ((with_reducible refine gate_dst (N := 7) rfl ?_); (try (refine gate_guard (by rfl) ?_; dsimp only)); refine box_event ?hg (N := 7) ?hd (cs := #[.int .u32 0, .int .i64 0, .slice none 0 0, .slice none 0 0, .int .u32 0, .int .u32 0, .int .i64 0, .int .u32 0]) (t := 30) ?hr ?_; (case hd => rfl); (case hg => rfl); (case hr => first | (go_simp; done) | (go_simp; rfl)); intro gb19 hg w61 hbox hb; have BK19 := Aside0.mk (hbox); have GW19 := gwS hg HB; have GE19 := gwS hg HB; have NB1_19 := nbL hg BK1; have NB19_1 := nbG hg BK1; have NB5_19 := nbL hg BK5; have NB19_5 := nbG hg BK5; have NB2_19 := nbL hg BK2; have NB19_2 := nbG hg BK2; replace HO11 := Aside0.mk (Kd.R_below (rW HO11) hb); replace HO14 := Aside0.mk (Kd.R_below (rW HO14) hb); replace BK1 := bkB BK1 hb; replace BK5 := bkB BK5 hb; replace BK2 := bkB BK2 hb; replace HB := hbS HB hb; clear hb hbox hg; have hnb62 := NB19_1.out; have hnc62 := NB1_19.out; have hnb63 := NB19_2.out; have hnc63 := NB2_19.out; obtain ⟨hcz64_0, hcz64_1, hcz64_2, hcz64_3, hcz64_4, hcz64_5, hcz64_6, hcz64_7, hfz64_0, hfz64_1, hfz64_2, hfz64_3, hfz64_4, hfz64_5, hfz64_6, hfz64_7⟩ := bc8 BK19; obtain ⟨Ao65, co65, eo65⟩ := Kd.R_slice HO11.out; subst eo65; obtain ⟨Ao66, co66, eo66⟩ := Kd.R_slice HO14.out; subst eo66; obtain ⟨hcz67_0, hcz67_1, hcz67_2, hcz67_3, hfz67_0, hfz67_1, hfz67_2, hfz67_3⟩ := bc4 BK1))
        go_ret
        exact ⟨by first | rfl | (simp [errW_none, errW_some] <;> rfl) | (simp [*, errW_none, errW_some] <;> rfl), hbW HB⟩
       ·
        rw [if_neg c56] at H
        have c56b0 : (a0_0 == 3) = false := beq_eq_false_iff_ne.mpr c56
        have c56b1 : (a0_0 != 3) = true := bne_iff_ne.mpr c56
        by_cases c68 : a0_0 = 4
        ·
         rw [if_pos c68] at H
         have c68b0 : (a0_0 == 4) = true := beq_iff_eq.mpr c68
         have c68b1 : (a0_0 != 4) = false := bne_eq_false_iff_eq.mpr c68
         clear c68
         obtain rfl := Option.some.inj H
         have hnb69 := NB1_2.out
         have hnc69 := NB2_1.out
         obtain ⟨hcz70_0, hcz70_1, hcz70_2, hcz70_3, hfz70_0, hfz70_1, hfz70_2, hfz70_3⟩ := bc4 BK1
         obtain ⟨hcz71_0, hcz71_1, hcz71_2, hcz71_3, hcz71_4, hcz71_5, hcz71_6, hcz71_7, hfz71_0, hfz71_1, hfz71_2, hfz71_3, hfz71_4, hfz71_5, hfz71_6, hfz71_7⟩ := bc8 BK2
         go_wp2_with (first | ((with_reducible refine gate_callee (f := 13) rfl ?_); refine goesL_ (some 24) rfl rfl Try.func13 (by kernel_rfl) rfl #[.agg #[.int .i64 a0_0, .int .u32 a0_1, .slice A0_2 l0_2.length c0_2, .slice A0_3 l0_3.length c0_3], .agg #[.int .u32 a1_0, .int .i64 a1_1, .slice A1_2 l1_2.length c1_2, .slice A1_3 l1_3.length c1_3, .int .u32 a1_4, .int .u32 a1_5, .int .i64 a1_6, .int .u32 a1_7]] rfl (by (try simp only [List.map_toArray, List.map_cons, List.map_nil]); first | done | rfl | (simp only [List.length_drop, List.length_take]; rfl)) ?_; (with_reducible refine (q8z.calls kj5 a0_0 a0_1 (fun k_ => k_ < w.heap.size) _ _ l0_2 _ _ l0_3 a1_0 a1_1 _ _ l1_2 _ _ l1_3 a1_4 a1_5 a1_6 a1_7 t7 t8 t9 t12 t15 t16 t17 t18 _ ?side1 ?side2 ?side3 ?side4 ?side5 ?side6 ?side7 A31.out).mono ?_); (case side1 => exact Kd.V_mk HC0_2.out (Kd.F_below (Kd.C_F (Kd.heap_int .u32) HR0_2.out) (hbW HB))); (case side2 => repeat (first | exact (Kd.C_below HR0_3.out HB.out) | (with_reducible refine Kd.C_alloc ?_ _) | (with_reducible refine Kd.C_drewN ?_ _) | (with_reducible refine Kd.C_drew ?_))); (case side3 => exact HC0_3.out); (case side4 => repeat (first | exact (Kd.C_below HR1_2.out HB.out) | (with_reducible refine Kd.C_alloc ?_ _) | (with_reducible refine Kd.C_drewN ?_ _) | (with_reducible refine Kd.C_drew ?_))); (case side5 => exact HC1_2.out); (case side6 => repeat (first | exact (Kd.C_below HR1_3.out HB.out) | (with_reducible refine Kd.C_alloc ?_ _) | (with_reducible refine Kd.C_drewN ?_ _) | (with_reducible refine Kd.C_drew ?_))); (case side7 => exact HC1_3.out); rintro e w72 ⟨v10, v13, rfl, ho0, ho1, hb⟩; refine ⟨_, rfl, ?_⟩; have HO11 := Aside0.mk (Kd.R_lower (Kd.R_mono (ok' := fun k_ => some k_ ≠ (v13 : Value).ownBlock) ho0 (fun _ hk_ => hk_.2)) (below_size (hbW HB))); have HO14 := Aside0.mk (Kd.R_lower (Kd.R_mono (ok' := fun k_ => some k_ ≠ (v10 : Value).ownBlock) ho1 (fun _ hk_ => hk_.2)) (below_size (hbW HB))); replace BK1 := bkB BK1 hb; replace BK5 := bkB BK5 hb; replace BK2 := bkB BK2 hb; replace HB := hbS HB hb; (try clear hb); (try clear ho0); (try clear ho1)) | ((with_reducible refine gate_dst (N := 7) rfl ?_); (try (refine gate_guard (by rfl) ?_; dsimp only)); refine box_event ?hg (N := 7) ?hd (cs := #[.int .u32 0, .int .i64 0, .slice none 0 0, .slice none 0 0, .int .u32 0, .int .u32 0, .int .i64 0, .int .u32 0]) (t := 30) ?hr ?_; (case hd => rfl); (case hg => rfl); (case hr => first | (go_simp; done) | (go_simp; rfl)); intro gb19 hg w73 hbox hb; have BK19 := Aside0.mk (hbox); have GW19 := gwS hg HB; have GE19 := gwS hg HB; have NB1_19 := nbL hg BK1; have NB19_1 := nbG hg BK1; have NB5_19 := nbL hg BK5; have NB19_5 := nbG hg BK5; have NB2_19 := nbL hg BK2; have NB19_2 := nbG hg BK2; replace HO11 := Aside0.mk (Kd.R_below (rW HO11) hb); replace HO14 := Aside0.mk (Kd.R_below (rW HO14) hb); replace BK1 := bkB BK1 hb; replace BK5 := bkB BK5 hb; replace BK2 := bkB BK2 hb; replace HB := hbS HB hb; clear hb hbox hg; have hnb74 := NB19_1.out; have hnc74 := NB1_19.out; have hnb75 := NB19_2.out; have hnc75 := NB2_19.out; obtain ⟨hcz76_0, hcz76_1, hcz76_2, hcz76_3, hcz76_4, hcz76_5, hcz76_6, hcz76_7, hfz76_0, hfz76_1, hfz76_2, hfz76_3, hfz76_4, hfz76_5, hfz76_6, hfz76_7⟩ := bc8 BK19; obtain ⟨Ao77, co77, eo77⟩ := Kd.R_slice HO11.out; subst eo77; obtain ⟨Ao78, co78, eo78⟩ := Kd.R_slice HO14.out; subst eo78; obtain ⟨hcz79_0, hcz79_1, hcz79_2, hcz79_3, hfz79_0, hfz79_1, hfz79_2, hfz79_3⟩ := bc4 BK1))
         go_ret
         exact ⟨by first | rfl | (simp [errW_none, errW_some] <;> rfl) | (simp [*, errW_none, errW_some] <;> rfl), hbW HB⟩
        ·
         rw [if_neg c68] at H
         have c68b0 : (a0_0 == 4) = false := beq_eq_false_iff_ne.mpr c68
         have c68b1 : (a0_0 != 4) = true := bne_iff_ne.mpr c68
         by_cases c80 : a0_0 = 5
         ·
          rw [if_pos c80] at H
          have c80b0 : (a0_0 == 5) = true := beq_iff_eq.mpr c80
          have c80b1 : (a0_0 != 5) = false := bne_eq_false_iff_eq.mpr c80
          clear c80
          by_cases c81 : 0 ≤ (l0_2.length : Int)
          ·
           rw [if_pos c81] at H
           have c81b0 := eq_true c81
           have c81b1 : decide (0 ≤ (l0_2.length : Int)) = true := decide_eq_true c81
           clear c81
           by_cases c82 : (l0_2.length : Int) ≤ (t9.length : Int)
           ·
            rw [if_pos c82] at H
            have c82b0 := eq_true c82
            have c82b1 : decide ((l0_2.length : Int) ≤ (t9.length : Int)) = true := decide_eq_true c82
            clear c82
            obtain ⟨y20, hy20⟩ : ∃ y_ : List Int, y_ = (t9.take ((l0_2.length : Int) : Int).toNat) := ⟨_, rfl⟩
            replace H : ((q9z.f kj5 y20 l0_2).bind fun t24 => (if t24 = true then ((q9z.f kj5 (t9.drop ((l0_2.length : Int) : Int).toNat) l1_2).bind fun t29 => (some t29)) else (some false))) = some r := by first | (rw [hy20]; with_reducible exact H) | (have H2_ := (Option.bind_some _ _).symm.trans H; rw [hy20]; with_reducible exact H2_) | (have H2_ := (Option.bind_some _ _).symm.trans H; with_reducible exact H2_) | with_reducible exact H | (rw [hy20]; exact H) | exact H
            have Ny20 := Aside0.mk hy20
            clear hy20
            replace H := Option.bind_eq_some_iff.mp H
            obtain ⟨t24, A830, H⟩ := H
            replace H : (if t24 = true then ((q9z.f kj5 (t9.drop ((l0_2.length : Int) : Int).toNat) l1_2).bind fun t29 => (some t29)) else (some false)) = some r := H
            have A83 := Aside0.mk A830
            clear A830
            by_cases c84 : t24 = true
            ·
             subst c84
             have H1 : ((q9z.f kj5 (t9.drop ((l0_2.length : Int) : Int).toNat) l1_2).bind fun t29 => (some t29)) = some r := by rw [if_pos rfl] at H; exact H
             clear H
             have H := H1
             clear H1
             have c85b0 := eq_true (of_decide_eq_true (by first | (with_reducible assumption) | assumption) : 0 ≤ (l0_2.length : Int))
             have c86b0 := eq_true (of_decide_eq_true (by first | (with_reducible assumption) | assumption) : (l0_2.length : Int) ≤ (t9.length : Int))
             obtain ⟨y25, hy25⟩ : ∃ y_ : List Int, y_ = (t9.drop ((l0_2.length : Int) : Int).toNat) := ⟨_, rfl⟩
             replace H : ((q9z.f kj5 y25 l1_2).bind fun t29 => (some t29)) = some r := by first | (rw [hy25]; with_reducible exact H) | (have H2_ := (Option.bind_some _ _).symm.trans H; rw [hy25]; with_reducible exact H2_) | (have H2_ := (Option.bind_some _ _).symm.trans H; with_reducible exact H2_) | with_reducible exact H | (rw [hy25]; exact H) | exact H
             have Ny25 := Aside0.mk hy25
             clear hy25
             replace H := Option.bind_eq_some_iff.mp H
             obtain ⟨t29, A870, H⟩ := H
             replace H : (some t29) = some r := H
             have A87 := Aside0.mk A870
             clear A870
             obtain rfl := Option.some.inj H
             have hnb88 := NB1_2.out
             have hnc88 := NB2_1.out
             obtain ⟨hcz89_0, hcz89_1, hcz89_2, hcz89_3, hfz89_0, hfz89_1, hfz89_2, hfz89_3⟩ := bc4 BK1
             obtain ⟨hcz90_0, hcz90_1, hcz90_2, hcz90_3, hcz90_4, hcz90_5, hcz90_6, hcz90_7, hfz90_0, hfz90_1, hfz90_2, hfz90_3, hfz90_4, hfz90_5, hfz90_6, hfz90_7⟩ := bc8 BK2
             try go_wp2_with (first | ((with_reducible refine gate_callee (f := 13) rfl ?_); refine goesL_ (some 24) rfl rfl Try.func13 (by kernel_rfl) rfl #[.agg #[.int .i64 a0_0, .int .u32 a0_1, .slice A0_2 l0_2.length c0_2, .slice A0_3 l0_3.length c0_3], .agg #[.int .u32 a1_0, .int .i64 a1_1, .slice A1_2 l1_2.length c1_2, .slice A1_3 l1_3.length c1_3, .int .u32 a1_4, .int .u32 a1_5, .int .i64 a1_6, .int .u32 a1_7]] rfl (by (try simp only [List.map_toArray, List.map_cons, List.map_nil]); first | done | rfl | (simp only [List.length_drop, List.length_take]; rfl)) ?_; (with_reducible refine (q8z.calls kj5 a0_0 a0_1 (fun k_ => k_ < w.heap.size) _ _ l0_2 _ _ l0_3 a1_0 a1_1 _ _ l1_2 _ _ l1_3 a1_4 a1_5 a1_6 a1_7 t7 t8 t9 t12 t15 t16 t17 t18 _ ?side1 ?side2 ?side3 ?side4 ?side5 ?side6 ?side7 A31.out).mono ?_); (case side1 => exact Kd.V_mk HC0_2.out (Kd.F_below (Kd.C_F (Kd.heap_int .u32) HR0_2.out) (hbW HB))); (case side2 => repeat (first | exact (Kd.C_below HR0_3.out HB.out) | (with_reducible refine Kd.C_alloc ?_ _) | (with_reducible refine Kd.C_drewN ?_ _) | (with_reducible refine Kd.C_drew ?_))); (case side3 => exact HC0_3.out); (case side4 => repeat (first | exact (Kd.C_below HR1_2.out HB.out) | (with_reducible refine Kd.C_alloc ?_ _) | (with_reducible refine Kd.C_drewN ?_ _) | (with_reducible refine Kd.C_drew ?_))); (case side5 => exact HC1_2.out); (case side6 => repeat (first | exact (Kd.C_below HR1_3.out HB.out) | (with_reducible refine Kd.C_alloc ?_ _) | (with_reducible refine Kd.C_drewN ?_ _) | (with_reducible refine Kd.C_drew ?_))); (case side7 => exact HC1_3.out); rintro e w91 ⟨v10, v13, rfl, ho0, ho1, hb⟩; refine ⟨_, rfl, ?_⟩; have HO11 := Aside0.mk (Kd.R_lower (Kd.R_mono (ok' := fun k_ => some k_ ≠ (v13 : Value).ownBlock) ho0 (fun _ hk_ => hk_.2)) (below_size (hbW HB))); have HO14 := Aside0.mk (Kd.R_lower (Kd.R_mono (ok' := fun k_ => some k_ ≠ (v10 : Value).ownBlock) ho1 (fun _ hk_ => hk_.2)) (below_size (hbW HB))); replace BK1 := bkB BK1 hb; replace BK5 := bkB BK5 hb; replace BK2 := bkB BK2 hb; replace HB := hbS HB hb; (try clear hb); (try clear ho0); (try clear ho1)) | ((with_reducible refine gate_dst (N := 7) rfl ?_); (try (refine gate_guard (by rfl) ?_; dsimp only)); refine box_event ?hg (N := 7) ?hd (cs := #[.int .u32 0, .int .i64 0, .slice none 0 0, .slice none 0 0, .int .u32 0, .int .u32 0, .int .i64 0, .int .u32 0]) (t := 30) ?hr ?_; (case hd => rfl); (case hg => rfl); (case hr => first | (go_simp; done) | (go_simp; rfl)); intro gb19 hg w92 hbox hb; have BK19 := Aside0.mk (hbox); have GW19 := gwS hg HB; have GE19 := gwS hg HB; have NB1_19 := nbL hg BK1; have NB19_1 := nbG hg BK1; have NB5_19 := nbL hg BK5; have NB19_5 := nbG hg BK5; have NB2_19 := nbL hg BK2; have NB19_2 := nbG hg BK2; replace HO11 := Aside0.mk (Kd.R_below (rW HO11) hb); replace HO14 := Aside0.mk (Kd.R_below (rW HO14) hb); replace BK1 := bkB BK1 hb; replace BK5 := bkB BK5 hb; replace BK2 := bkB BK2 hb; replace HB := hbS HB hb; clear hb hbox hg; have hnb93 := NB19_1.out; have hnc93 := NB1_19.out; have hnb94 := NB19_2.out; have hnc94 := NB2_19.out; obtain ⟨hcz95_0, hcz95_1, hcz95_2, hcz95_3, hcz95_4, hcz95_5, hcz95_6, hcz95_7, hfz95_0, hfz95_1, hfz95_2, hfz95_3, hfz95_4, hfz95_5, hfz95_6, hfz95_7⟩ := bc8 BK19; obtain ⟨Ao96, co96, eo96⟩ := Kd.R_slice HO11.out; subst eo96; obtain ⟨Ao97, co97, eo97⟩ := Kd.R_slice HO14.out; subst eo97; obtain ⟨hcz98_0, hcz98_1, hcz98_2, hcz98_3, hfz98_0, hfz98_1, hfz98_2, hfz98_3⟩ := bc4 BK1))
             have n0_ : Aside0 (Kd.R (Kd.int .u32) 22 ((((((((w92.setCell ⟨gb19, 0, none⟩ (.int .u32 t7)).setCell ⟨gb19, 1, none⟩ (.int .i64 t8)).setCell ⟨gb19, 2, none⟩ (.slice Ao96 t9.length co96)).setCell ⟨gb19, 3, none⟩ (.slice Ao97 t12.length co97)).setCell ⟨gb19, 4, none⟩ (.int .u32 t15)).setCell ⟨gb19, 5, none⟩ (.int .u32 t16)).setCell ⟨gb19, 6, none⟩ (.int .i64 t17)).setCell ⟨gb19, 7, none⟩ (.int .u32 t18)) w.heap.size (fun k_ => some k_ ≠ (.slice Ao97 t12.length co97 : Value).ownBlock) (.slice Ao96 t9.length co96) t9) := ⟨moR (rW HO11)⟩
             have n1_ : Aside0 (Kd.R (Kd.int .u32) 22 ((((((((w92.setCell ⟨gb19, 0, none⟩ (.int .u32 t7)).setCell ⟨gb19, 1, none⟩ (.int .i64 t8)).setCell ⟨gb19, 2, none⟩ (.slice Ao96 t9.length co96)).setCell ⟨gb19, 3, none⟩ (.slice Ao97 t12.length co97)).setCell ⟨gb19, 4, none⟩ (.int .u32 t15)).setCell ⟨gb19, 5, none⟩ (.int .u32 t16)).setCell ⟨gb19, 6, none⟩ (.int .i64 t17)).setCell ⟨gb19, 7, none⟩ (.int .u32 t18)) w.heap.size (fun k_ => some k_ ≠ (.slice Ao96 t9.length co96 : Value).ownBlock) (.slice Ao97 t12.length co97) t12) := ⟨moR (rW HO14)⟩
             have n2_ : Aside0 (((((((((w92.setCell ⟨gb19, 0, none⟩ (.int .u32 t7)).setCell ⟨gb19, 1, none⟩ (.int .i64 t8)).setCell ⟨gb19, 2, none⟩ (.slice Ao96 t9.length co96)).setCell ⟨gb19, 3, none⟩ (.slice Ao97 t12.length co97)).setCell ⟨gb19, 4, none⟩ (.int .u32 t15)).setCell ⟨gb19, 5, none⟩ (.int .u32 t16)).setCell ⟨gb19, 6, none⟩ (.int .i64 t17)).setCell ⟨gb19, 7, none⟩ (.int .u32 t18)).heap[gb1]? = some (.cells #[.int .i64 a0_0, .int .u32 a0_1, .slice A0_2 l0_2.length c0_2, .slice A0_3 l0_3.length c0_3] 26 (0, 0))) := ⟨by (with_reducible repeat (first | refine blk_drewN ?_ _ | refine blk_drew ?_ | refine blk_alloc ?_ _)); refine blk_far ?_ NB1_19.out _; (with_reducible repeat (first | refine blk_drewN ?_ _ | refine blk_drew ?_ | refine blk_alloc ?_ _)); refine blk_far ?_ NB1_19.out _; (with_reducible repeat (first | refine blk_drewN ?_ _ | refine blk_drew ?_ | refine blk_alloc ?_ _)); refine blk_far ?_ NB1_19.out _; (with_reducible repeat (first | refine blk_drewN ?_ _ | refine blk_drew ?_ | refine blk_alloc ?_ _)); refine blk_far ?_ NB1_19.out _; (with_reducible repeat (first | refine blk_drewN ?_ _ | refine blk_drew ?_ | refine blk_alloc ?_ _)); refine blk_far ?_ NB1_19.out _; (with_reducible repeat (first | refine blk_drewN ?_ _ | refine blk_drew ?_ | refine blk_alloc ?_ _)); refine blk_far ?_ NB1_19.out _; (with_reducible repeat (first | refine blk_drewN ?_ _ | refine blk_drew ?_ | refine blk_alloc ?_ _)); refine blk_far ?_ NB1_19.out _; (with_reducible repeat (first | refine blk_drewN ?_ _ | refine blk_drew ?_ | refine blk_alloc ?_ _)); refine blk_far ?_ NB1_19.out _; (with_reducible repeat (first | refine blk_drewN ?_ _ | refine blk_drew ?_ | refine blk_alloc ?_ _)); exact BK1.out⟩
             have n99_ : Aside0 (((((((((w92.setCell ⟨gb19, 0, none⟩ (.int .u32 t7)).setCell ⟨gb19, 1, none⟩ (.int .i64 t8)).setCell ⟨gb19, 2, none⟩ (.slice Ao96 t9.length co96)).setCell ⟨gb19, 3, none⟩ (.slice Ao97 t12.length co97)).setCell ⟨gb19, 4, none⟩ (.int .u32 t15)).setCell ⟨gb19, 5, none⟩ (.int .u32 t16)).setCell ⟨gb19, 6, none⟩ (.int .i64 t17)).setCell ⟨gb19, 7, none⟩ (.int .u32 t18)).heap[gb5]? = some (.cells #[.int .u32 a2] 22 (0, 0))) := ⟨bkV BK5⟩
             have n3_ : Aside0 (((((((((w92.setCell ⟨gb19, 0, none⟩ (.int .u32 t7)).setCell ⟨gb19, 1, none⟩ (.int .i64 t8)).setCell ⟨gb19, 2, none⟩ (.slice Ao96 t9.length co96)).setCell ⟨gb19, 3, none⟩ (.slice Ao97 t12.length co97)).setCell ⟨gb19, 4, none⟩ (.int .u32 t15)).setCell ⟨gb19, 5, none⟩ (.int .u32 t16)).setCell ⟨gb19, 6, none⟩ (.int .i64 t17)).setCell ⟨gb19, 7, none⟩ (.int .u32 t18)).heap[gb2]? = some (.cells #[.int .u32 a1_0, .int .i64 a1_1, .slice A1_2 l1_2.length c1_2, .slice A1_3 l1_3.length c1_3, .int .u32 a1_4, .int .u32 a1_5, .int .i64 a1_6, .int .u32 a1_7] 30 (0, 0))) := ⟨by (with_reducible repeat (first | refine blk_drewN ?_ _ | refine blk_drew ?_ | refine blk_alloc ?_ _)); refine blk_far ?_ NB2_19.out _; (with_reducible repeat (first | refine blk_drewN ?_ _ | refine blk_drew ?_ | refine blk_alloc ?_ _)); refine blk_far ?_ NB2_19.out _; (with_reducible repeat (first | refine blk_drewN ?_ _ | refine blk_drew ?_ | refine blk_alloc ?_ _)); refine blk_far ?_ NB2_19.out _; (with_reducible repeat (first | refine blk_drewN ?_ _ | refine blk_drew ?_ | refine blk_alloc ?_ _)); refine blk_far ?_ NB2_19.out _; (with_reducible repeat (first | refine blk_drewN ?_ _ | refine blk_drew ?_ | refine blk_alloc ?_ _)); refine blk_far ?_ NB2_19.out _; (with_reducible repeat (first | refine blk_drewN ?_ _ | refine blk_drew ?_ | refine blk_alloc ?_ _)); refine blk_far ?_ NB2_19.out _; (with_reducible repeat (first | refine blk_drewN ?_ _ | refine blk_drew ?_ | refine blk_alloc ?_ _)); refine blk_far ?_ NB2_19.out _; (with_reducible repeat (first | refine blk_drewN ?_ _ | refine blk_drew ?_ | refine blk_alloc ?_ _)); refine blk_far ?_ NB2_19.out _; (with_reducible repeat (first | refine blk_drewN ?_ _ | refine blk_drew ?_ | refine blk_alloc ?_ _)); exact BK2.out⟩
             have n4_ : Aside0 (((((((((w92.setCell ⟨gb19, 0, none⟩ (.int .u32 t7)).setCell ⟨gb19, 1, none⟩ (.int .i64 t8)).setCell ⟨gb19, 2, none⟩ (.slice Ao96 t9.length co96)).setCell ⟨gb19, 3, none⟩ (.slice Ao97 t12.length co97)).setCell ⟨gb19, 4, none⟩ (.int .u32 t15)).setCell ⟨gb19, 5, none⟩ (.int .u32 t16)).setCell ⟨gb19, 6, none⟩ (.int .i64 t17)).setCell ⟨gb19, 7, none⟩ (.int .u32 t18)).heap[gb19]? = some (.cells #[.int .u32 t7, .int .i64 t8, .slice Ao96 t9.length co96, .slice Ao97 t12.length co97, .int .u32 t15, .int .u32 t16, .int .i64 t17, .int .u32 t18] 30 (0, 0))) := ⟨by (with_reducible repeat (first | refine blk_drewN ?_ _ | refine blk_drew ?_ | refine blk_alloc ?_ _)); refine blk_put (cs := #[.int .u32 t7, .int .i64 t8, .slice Ao96 t9.length co96, .slice Ao97 t12.length co97, .int .u32 t15, .int .u32 t16, .int .i64 t17, .int .u32 0]) ?_ 7 _ rfl; (with_reducible repeat (first | refine blk_drewN ?_ _ | refine blk_drew ?_ | refine blk_alloc ?_ _)); refine blk_put (cs := #[.int .u32 t7, .int .i64 t8, .slice Ao96 t9.length co96, .slice Ao97 t12.length co97, .int .u32 t15, .int .u32 t16, .int .i64 0, .int .u32 0]) ?_ 6 _ rfl; (with_reducible repeat (first | refine blk_drewN ?_ _ | refine blk_drew ?_ | refine blk_alloc ?_ _)); refine blk_put (cs := #[.int .u32 t7, .int .i64 t8, .slice Ao96 t9.length co96, .slice Ao97 t12.length co97, .int .u32 t15, .int .u32 0, .int .i64 0, .int .u32 0]) ?_ 5 _ rfl; (with_reducible repeat (first | refine blk_drewN ?_ _ | refine blk_drew ?_ | refine blk_alloc ?_ _)); refine blk_put (cs := #[.int .u32 t7, .int .i64 t8, .slice Ao96 t9.length co96, .slice Ao97 t12.length co97, .int .u32 0, .int .u32 0, .int .i64 0, .int .u32 0]) ?_ 4 _ rfl; (with_reducible repeat (first | refine blk_drewN ?_ _ | refine blk_drew ?_ | refine blk_alloc ?_ _)); refine blk_put (cs := #[.int .u32 t7, .int .i64 t8, .slice Ao96 t9.length co96, .slice none 0 0, .int .u32 0, .int .u32 0, .int .i64 0, .int .u32 0]) ?_ 3 _ rfl; (with_reducible repeat (first | refine blk_drewN ?_ _ | refine blk_drew ?_ | refine blk_alloc ?_ _)); refine blk_put (cs := #[.int .u32 t7, .int .i64 t8, .slice none 0 0, .slice none 0 0, .int .u32 0, .int .u32 0, .int .i64 0, .int .u32 0]) ?_ 2 _ rfl; (with_reducible repeat (first | refine blk_drewN ?_ _ | refine blk_drew ?_ | refine blk_alloc ?_ _)); refine blk_put (cs := #[.int .u32 t7, .int .i64 0, .slice none 0 0, .slice none 0 0, .int .u32 0, .int .u32 0, .int .i64 0, .int .u32 0]) ?_ 1 _ rfl; (with_reducible repeat (first | refine blk_drewN ?_ _ | refine blk_drew ?_ | refine blk_alloc ?_ _)); refine blk_put (cs := #[.int .u32 0, .int .i64 0, .slice none 0 0, .slice none 0 0, .int .u32 0, .int .u32 0, .int .i64 0, .int .u32 0]) ?_ 0 _ rfl; (with_reducible repeat (first | refine blk_drewN ?_ _ | refine blk_drew ?_ | refine blk_alloc ?_ _)); exact BK19.out⟩
             have n5_ : Aside0 (Below w.heap.size w ((((((((w92.setCell ⟨gb19, 0, none⟩ (.int .u32 t7)).setCell ⟨gb19, 1, none⟩ (.int .i64 t8)).setCell ⟨gb19, 2, none⟩ (.slice Ao96 t9.length co96)).setCell ⟨gb19, 3, none⟩ (.slice Ao97 t12.length co97)).setCell ⟨gb19, 4, none⟩ (.int .u32 t15)).setCell ⟨gb19, 5, none⟩ (.int .u32 t16)).setCell ⟨gb19, 6, none⟩ (.int .i64 t17)).setCell ⟨gb19, 7, none⟩ (.int .u32 t18))) := ⟨hbW HB⟩
             (try clear HO11)
             (try clear HO14)
             (try clear BK1)
             (try clear BK5)
             (try clear BK2)
             (try clear BK19)
             (try clear HB)
             generalize ((((((((w92.setCell ⟨gb19, 0, none⟩ (.int .u32 t7)).setCell ⟨gb19, 1, none⟩ (.int .i64 t8)).setCell ⟨gb19, 2, none⟩ (.slice Ao96 t9.length co96)).setCell ⟨gb19, 3, none⟩ (.slice Ao97 t12.length co97)).setCell ⟨gb19, 4, none⟩ (.int .u32 t15)).setCell ⟨gb19, 5, none⟩ (.int .u32 t16)).setCell ⟨gb19, 6, none⟩ (.int .i64 t17)).setCell ⟨gb19, 7, none⟩ (.int .u32 t18)) = w99 at n99_ n0_ n1_ n2_ n3_ n4_ n5_ ⊢
             have HO11 := n0_
             have HO14 := n1_
             have BK1 := n2_
             have BK5 := n99_
             have BK2 := n3_
             have BK19 := n4_
             have HB := n5_
             clear n0_ n1_ n2_ n3_ n4_ n5_ n99_
             replace HO11 := Aside0.mk (Kd.R_drew HO11.out)
             replace HO14 := Aside0.mk (Kd.R_drew HO14.out)
             replace BK1 := Aside0.mk (blk_drew BK1.out); replace BK5 := Aside0.mk (blk_drew BK5.out)
             replace BK2 := Aside0.mk (blk_drew BK2.out)
             replace BK19 := Aside0.mk (blk_drew BK19.out)
             replace HB := Aside0.mk (below_drew1 HB.out)
             have q101 : ((l0_2.length : Int) : Int) ≤ ((t9.length : Int) : Int) := of_decide_eq_true (by first | (with_reducible assumption) | assumption)
             obtain ⟨i0101, hi0101, _, hsz101, _⟩ := info_parts info22
             have hroom101 : t9.length ≤ co96 := (Kd.R_reads' HO11.out).2.1
             have hC101 : Kd.C (Kd.int .u32) _ Ao96 t9.length t9 := (Kd.R_reads' HO11.out).2.2
             have hcut101 := cut_to (P := Try.prog) 23 22 .i64 Try.underlying23 hi0101 Ao96 t9.length co96 (l0_2.length : Int) (of_decide_eq_true (by first | (with_reducible assumption) | assumption)) q101 hroom101
             have hr101 := Kd.C_take (m := ((l0_2.length : Int) : Int).toNat) hC101 (by omega)
             have hy101 : y20.length = ((l0_2.length : Int) : Int).toNat := (by rw [Ny20.out, List.length_take]; omega)
             rw [← Ny20.out] at hr101
             rw [← hy101] at hcut101
             have HR23 := Aside0.mk hr101
             have HC23 := Aside0.mk (show y20.length ≤ co96 from by omega)
             clear hr101 hC101 hroom101 hi0101 hsz101
             have KY101 := Aside0.mk hy101
             clear hy101
             have KL101 := Aside0.mk (show ((l0_2.length : Int) : Int).toNat ≤ t9.length from by omega)
             replace q101 := eq_true q101
             refine start_ (n := 21) (S := fun w' => w'.cell? ⟨gb19, 0, none⟩ = some (.int .u32 t7) ∧ w'.cell? ⟨gb19, 1, none⟩ = some (.int .i64 t8) ∧ w'.cell? ⟨gb19, 2, none⟩ = some (.slice Ao96 t9.length co96) ∧ w'.cell? ⟨gb19, 3, none⟩ = some (.slice Ao97 t12.length co97) ∧ w'.cell? ⟨gb19, 4, none⟩ = some (.int .u32 t15) ∧ w'.cell? ⟨gb19, 5, none⟩ = some (.int .u32 t16) ∧ w'.cell? ⟨gb19, 6, none⟩ = some (.int .i64 t17) ∧ w'.cell? ⟨gb19, 7, none⟩ = some (.int .u32 t18) ∧ w'.cell? ⟨gb1, 0, none⟩ = some (.int .i64 a0_0) ∧ w'.cell? ⟨gb1, 1, none⟩ = some (.int .u32 a0_1) ∧ w'.cell? ⟨gb1, 2, none⟩ = some (.slice A0_2 l0_2.length c0_2) ∧ w'.cell? ⟨gb1, 3, none⟩ = some (.slice A0_3 l0_3.length c0_3) ∧ w'.cell? ⟨gb2, 0, none⟩ = some (.int .u32 a1_0) ∧ w'.cell? ⟨gb2, 1, none⟩ = some (.int .i64 a1_1) ∧ w'.cell? ⟨gb2, 2, none⟩ = some (.slice A1_2 l1_2.length c1_2) ∧ w'.cell? ⟨gb2, 3, none⟩ = some (.slice A1_3 l1_3.length c1_3) ∧ w'.cell? ⟨gb2, 4, none⟩ = some (.int .u32 a1_4) ∧ w'.cell? ⟨gb2, 5, none⟩ = some (.int .u32 a1_5) ∧ w'.cell? ⟨gb2, 6, none⟩ = some (.int .i64 a1_6) ∧ w'.cell? ⟨gb2, 7, none⟩ = some (.int .u32 a1_7)) (ds := []) #[false, false, false, false, false, false, false, false, false, false, false, false, false, false, false, false, false, false, false, false, false] (by kernel_rfl) rfl rfl (bk8 BK19 (bk4 BK1 (bl8 BK2))) (fun hHeld => ?_); refine with_tabW q17z.tab17 q17z.bits17 (fun HT_ HW_ => ?_)
             generalize w99.drew = w100 at BK5 HO11 HO14 BK1 BK2 BK19 HB HR23 hHeld ⊢
             refine pure_ (i := 0) (N := some 59) (v := ?_) (a' := ?_) #[true, false, false, false, false, false, false, false, false, false, false, false, false, false, false, false, false, false, false, false, false] rfl rfl (any_of HT_.out (by kernel_rfl)) (fun _ _ _ h => h) (Or.inl ⟨by rfl, ?_⟩) ?_ ?_
             rotate_left
             ·
              intro w'
              go_simp
              with_reducible rfl
             rotate_left
             ·
              simp only [Act.put, List.setIfInBounds_toArray, List.set_cons_zero, List.set_cons_succ, i64_w, i32_w, IntKind.wrap_u32]
              rfl
             refine pure_ (i := 2) (N := some 61) (v := ?_) (a' := ?_) #[true, false, true, false, false, false, false, false, false, false, false, false, false, false, false, false, false, false, false, false, false] rfl rfl (any_of HT_.out (by kernel_rfl)) (fun _ _ _ h => h) (Or.inl ⟨by rfl, ?_⟩) ?_ ?_
             rotate_left
             ·
              intro w'
              go_simp
              with_reducible rfl
             rotate_left
             ·
              simp only [Act.put, List.setIfInBounds_toArray, List.set_cons_zero, List.set_cons_succ, i64_w, i32_w, IntKind.wrap_u32]
              rfl
             refine pure_ (i := 6) (N := some 65) (v := ?_) (a' := ?_) #[true, false, true, false, false, false, true, false, false, false, false, false, false, false, false, false, false, false, false, false, false] rfl rfl (any_of HT_.out (by kernel_rfl)) (fun _ _ _ h => h) (Or.inl ⟨by rfl, ?_⟩) ?_ ?_
             rotate_left
             ·
              intro w'
              go_simp
              with_reducible rfl
             rotate_left
             ·
              simp only [Act.put, List.setIfInBounds_toArray, List.set_cons_zero, List.set_cons_succ, i64_w, i32_w, IntKind.wrap_u32]
              rfl
             refine take_ (i := 1) (N := some 60) (v := ?_) (a' := ?_) #[true, true, true, false, false, false, true, false, false, false, false, false, false, false, false, false, false, false, false, false, false] rfl rfl (take_ofW HT_.out HW_.out (by kernel_rfl)) (fun _ _ _ h => h) (Or.inl ⟨by rfl, ?_⟩) hHeld ?_ ?_
             rotate_left
             ·
              rintro w' ⟨s0, s1, s2, s3, s4, s5, s6, s7, s8, s9, s10, s11, s12, s13, s14, s15, s16, s17, s18, s19⟩
              go_simp
              with_reducible rfl
             rotate_left
             ·
              simp only [Act.put, List.setIfInBounds_toArray, List.set_cons_zero, List.set_cons_succ, i64_w, i32_w, IntKind.wrap_u32]
              rfl
             refine take_ (i := 3) (N := some 62) (v := ?_) (a' := ?_) #[true, true, true, true, false, false, true, false, false, false, false, false, false, false, false, false, false, false, false, false, false] rfl rfl (take_ofW HT_.out HW_.out (by kernel_rfl)) (fun _ _ _ h => h) (Or.inl ⟨by rfl, ?_⟩) hHeld ?_ ?_
             rotate_left
             ·
              rintro w' ⟨s0, s1, s2, s3, s4, s5, s6, s7, s8, s9, s10, s11, s12, s13, s14, s15, s16, s17, s18, s19⟩
              go_simp
              with_reducible rfl
             rotate_left
             ·
              simp only [Act.put, List.setIfInBounds_toArray, List.set_cons_zero, List.set_cons_succ, i64_w, i32_w, IntKind.wrap_u32]
              rfl
             refine pure_ (i := 4) (N := some 63) (v := ?_) (a' := ?_) #[true, true, true, true, true, false, true, false, false, false, false, false, false, false, false, false, false, false, false, false, false] rfl rfl (any_of HT_.out (by kernel_rfl)) (fun _ _ _ h => h) (Or.inl ⟨by rfl, ?_⟩) ?_ ?_
             rotate_left
             ·
              intro w'
              go_simp
              with_reducible rfl
             rotate_left
             ·
              simp only [Act.put, List.setIfInBounds_toArray, List.set_cons_zero, List.set_cons_succ, i64_w, i32_w, IntKind.wrap_u32]
              rfl
             refine pure_ (i := 5) (N := some 64) (v := ?_) (a' := ?_) #[true, true, true, true, true, true, true, false, false, false, false, false, false, false, false, false, false, false, false, false, false] rfl rfl (any_of HT_.out (by kernel_rfl)) (fun _ _ _ h => h) (Or.inl ⟨by rfl, ?_⟩) ?_ ?_
             rotate_left
             ·
              intro w'
              go_simp
              with_reducible rfl
             rotate_left
             ·
              simp only [Act.put, List.setIfInBounds_toArray, List.set_cons_zero, List.set_cons_succ, i64_w, i32_w, IntKind.wrap_u32]
              rfl
             refine take_ (i := 7) (N := some 66) (v := ?_) (a' := ?_) #[true, true, true, true, true, true, true, true, false, false, false, false, false, false, false, false, false, false, false, false, false] rfl rfl (take_ofW HT_.out HW_.out (by kernel_rfl)) (fun _ _ _ h => h) (Or.inl ⟨by rfl, ?_⟩) hHeld ?_ ?_
             rotate_left
             ·
              rintro w' ⟨s0, s1, s2, s3, s4, s5, s6, s7, s8, s9, s10, s11, s12, s13, s14, s15, s16, s17, s18, s19⟩
              go_simp
              with_reducible rfl
             rotate_left
             ·
              simp only [Act.put, List.setIfInBounds_toArray, List.set_cons_zero, List.set_cons_succ, i64_w, i32_w, IntKind.wrap_u32]
              rfl
             refine one_ (i := 8) (N := some 67) #[true, true, true, true, true, true, true, true, true, false, false, false, false, false, false, false, false, false, false, false, false] rfl rfl (one_of HT_.out (by kernel_rfl)) (by decide) (fun K hK => ?_)
             refine goes_ Try.func20 (by kernel_rfl) rfl #[.slice Ao96 y20.length co96, .slice A0_2 l0_2.length c0_2] (by rfl) rfl rfl (by (try simp only [List.map_toArray, List.map_cons, List.map_nil]); first | done | rfl | (simp only [List.length_drop, List.length_take]; rfl)) ?_
             with_reducible refine (q9z.calls kj5 _ _ y20 _ _ l0_2 true _ ?side1 ?side2 ?side3 ?side4 A83.out).mono ?_
             (case side1 => repeat (first | exact (by repeat (first | (with_reducible exact HR23.out) | (with_reducible refine Kd.C_alloc ?_ _) | (with_reducible refine Kd.C_drewN ?_ _) | (with_reducible refine Kd.C_drew ?_) | exact HR23.out)) | (with_reducible refine Kd.C_alloc ?_ _) | (with_reducible refine Kd.C_drewN ?_ _) | (with_reducible refine Kd.C_drew ?_)))
             (case side2 => exact HC23.out)
             (case side3 => repeat (first | exact (Kd.C_below HR0_2.out HB.out) | (with_reducible refine Kd.C_alloc ?_ _) | (with_reducible refine Kd.C_drewN ?_ _) | (with_reducible refine Kd.C_drew ?_)))
             (case side4 => exact HC0_2.out)
             rintro e w' ⟨rfl, ⟨nd, rfl⟩⟩
             refine ⟨_, rfl, ?_⟩
             have q102 : ((l0_2.length : Int) : Int) ≤ ((t9.length : Int) : Int) := of_decide_eq_true (by first | (with_reducible assumption) | assumption)
             obtain ⟨i0102, hi0102, _, hsz102, _⟩ := info_parts info22
             have hroom102 : t9.length ≤ co96 := (Kd.R_reads' HO11.out).2.1
             have hC102 : Kd.C (Kd.int .u32) _ Ao96 t9.length t9 := (Kd.R_reads' HO11.out).2.2
             have q0102 : (0 : Int) ≤ ((l0_2.length : Int) : Int) := of_decide_eq_true (by first | (with_reducible assumption) | assumption)
             have hcut102 := cut_from (P := Try.prog) 23 22 .i64 Try.underlying23 hi0102 1 hsz102 Ao96 t9.length co96 (l0_2.length : Int) q0102 q102
             have hr102 := Kd.C_drop (m := ((l0_2.length : Int) : Int).toNat) (c := co96) hC102 (by omega) hroom102
             obtain ⟨A102, hA102⟩ : ∃ A1, A1 = (if co96 = ((l0_2.length : Int) : Int).toNat then Ao96 else (Ao96 : Option Addr).map (·.add (((l0_2.length : Int) : Int).toNat * 1))) := ⟨_, rfl⟩
             obtain ⟨c102, hc102⟩ : ∃ c1, c1 = co96 - ((l0_2.length : Int) : Int).toNat := ⟨_, rfl⟩
             have hy102 : y25.length = t9.length - ((l0_2.length : Int) : Int).toNat := (by rw [Ny25.out, List.length_drop] <;> omega)
             rw [show (t9).drop ((l0_2.length : Int) : Int).toNat = y25 from Ny25.out.symm] at hr102
             replace hr102 : Kd.C (Kd.int .u32) _ A102 y25.length y25 := (by rw [hA102]; exact hr102)
             rw [← hy102, ← hA102, ← hc102] at hcut102
             have HR28 := Aside0.mk hr102
             have HC28 := Aside0.mk (show y25.length ≤ c102 from by rw [hy102, hc102]; exact Nat.sub_le_sub_right hroom102 _)
             clear hr102 hC102 hroom102 hi0102 hsz102 hc102
             have KY102 := Aside0.mk hy102
             have KA102 := Aside0.mk hA102
             clear hy102 hA102
             have KL102 := Aside0.mk (show ((l0_2.length : Int) : Int).toNat ≤ t9.length from by omega)
             replace q102 := eq_true q102
             refine hK.out _ _ (bk8 BK19 (bk4 BK1 (bl8 BK2))) (fun hHeld => ?_)
             clear hK K
             refine norm_ (a' := ?_) ?_ ?_
             rotate_left
             ·
              show Act.put _ (some 67) _ = _
              simp only [Act.put, List.setIfInBounds_toArray, List.set_cons_zero, List.set_cons_succ, i64_w, i32_w, IntKind.wrap_u32]
              rfl
             refine pure_ (i := 9) (N := some 68) (v := ?_) (a' := ?_) #[true, true, true, true, true, true, true, true, true, true, false, false, false, false, false, false, false, false, false, false, false] rfl rfl (any_of HT_.out (by kernel_rfl)) (fun _ _ _ h => h) (Or.inl ⟨by rfl, ?_⟩) ?_ ?_
             rotate_left
             ·
              intro w'
              go_simp
              with_reducible rfl
             rotate_left
             ·
              simp only [Act.put, List.setIfInBounds_toArray, List.set_cons_zero, List.set_cons_succ, i64_w, i32_w, IntKind.wrap_u32]
              rfl
             refine pure_ (i := 10) (N := some 69) (v := ?_) (a' := ?_) #[true, true, true, true, true, true, true, true, true, true, true, false, false, false, false, false, false, false, false, false, false] rfl rfl (any_of HT_.out (by kernel_rfl)) (fun _ _ _ h => h) (Or.inl ⟨by rfl, ?_⟩) ?_ ?_
             rotate_left
             ·
              intro w'
              go_simp
              with_reducible rfl
             rotate_left
             ·
              simp only [Act.put, List.setIfInBounds_toArray, List.set_cons_zero, List.set_cons_succ, i64_w, i32_w, IntKind.wrap_u32]
              rfl
             refine pure_ (i := 12) (N := some 71) (v := ?_) (a' := ?_) #[true, true, true, true, true, true, true, true, true, true, true, false, true, false, false, false, false, false, false, false, false] rfl rfl (any_of HT_.out (by kernel_rfl)) (fun _ _ _ h => h) (Or.inl ⟨by rfl, ?_⟩) ?_ ?_
             rotate_left
             ·
              intro w'
              go_simp
              with_reducible rfl
             rotate_left
             ·
              simp only [Act.put, List.setIfInBounds_toArray, List.set_cons_zero, List.set_cons_succ, i64_w, i32_w, IntKind.wrap_u32]
              rfl
             refine pure_ (i := 16) (N := some 75) (v := ?_) (a' := ?_) #[true, true, true, true, true, true, true, true, true, true, true, false, true, false, false, false, true, false, false, false, false] rfl rfl (any_of HT_.out (by kernel_rfl)) (fun _ _ _ h => h) (Or.inl ⟨by rfl, ?_⟩) ?_ ?_
             rotate_left
             ·
              intro w'
              go_simp
              with_reducible rfl
             rotate_left
             ·
              simp only [Act.put, List.setIfInBounds_toArray, List.set_cons_zero, List.set_cons_succ, i64_w, i32_w, IntKind.wrap_u32]
              rfl
             refine take_ (i := 11) (N := some 70) (v := ?_) (a' := ?_) #[true, true, true, true, true, true, true, true, true, true, true, true, true, false, false, false, true, false, false, false, false] rfl rfl (take_ofW HT_.out HW_.out (by kernel_rfl)) (fun _ _ _ h => h) (Or.inl ⟨by rfl, ?_⟩) hHeld ?_ ?_
             rotate_left
             ·
              rintro w' ⟨s0, s1, s2, s3, s4, s5, s6, s7, s8, s9, s10, s11, s12, s13, s14, s15, s16, s17, s18, s19⟩
              go_simp
              with_reducible rfl
             rotate_left
             ·
              simp only [Act.put, List.setIfInBounds_toArray, List.set_cons_zero, List.set_cons_succ, i64_w, i32_w, IntKind.wrap_u32]
              rfl
             refine take_ (i := 13) (N := some 72) (v := ?_) (a' := ?_) #[true, true, true, true, true, true, true, true, true, true, true, true, true, true, false, false, true, false, false, false, false] rfl rfl (take_ofW HT_.out HW_.out (by kernel_rfl)) (fun _ _ _ h => h) (Or.inl ⟨by rfl, ?_⟩) hHeld ?_ ?_
             rotate_left
             ·
              rintro w' ⟨s0, s1, s2, s3, s4, s5, s6, s7, s8, s9, s10, s11, s12, s13, s14, s15, s16, s17, s18, s19⟩
              go_simp
              with_reducible rfl
             rotate_left
             ·
              simp only [Act.put, List.setIfInBounds_toArray, List.set_cons_zero, List.set_cons_succ, i64_w, i32_w, IntKind.wrap_u32]
              rfl
             refine pure_ (i := 14) (N := some 73) (v := ?_) (a' := ?_) #[true, true, true, true, true, true, true, true, true, true, true, true, true, true, true, false, true, false, false, false, false] rfl rfl (any_of HT_.out (by kernel_rfl)) (fun _ _ _ h => h) (Or.inl ⟨by rfl, ?_⟩) ?_ ?_
             rotate_left
             ·
              intro w'
              go_simp
              with_reducible rfl
             rotate_left
             ·
              simp only [Act.put, List.setIfInBounds_toArray, List.set_cons_zero, List.set_cons_succ, i64_w, i32_w, IntKind.wrap_u32]
              rfl
             refine pure_ (i := 15) (N := some 74) (v := ?_) (a' := ?_) #[true, true, true, true, true, true, true, true, true, true, true, true, true, true, true, true, true, false, false, false, false] rfl rfl (any_of HT_.out (by kernel_rfl)) (fun _ _ _ h => h) (Or.inl ⟨by rfl, ?_⟩) ?_ ?_
             rotate_left
             ·
              intro w'
              go_simp
              with_reducible rfl
             rotate_left
             ·
              simp only [Act.put, List.setIfInBounds_toArray, List.set_cons_zero, List.set_cons_succ, i64_w, i32_w, IntKind.wrap_u32]
              rfl
             refine take_ (i := 17) (N := some 76) (v := ?_) (a' := ?_) #[true, true, true, true, true, true, true, true, true, true, true, true, true, true, true, true, true, true, false, false, false] rfl rfl (take_ofW HT_.out HW_.out (by kernel_rfl)) (fun _ _ _ h => h) (Or.inl ⟨by rfl, ?_⟩) hHeld ?_ ?_
             rotate_left
             ·
              rintro w' ⟨s0, s1, s2, s3, s4, s5, s6, s7, s8, s9, s10, s11, s12, s13, s14, s15, s16, s17, s18, s19⟩
              go_simp
              with_reducible rfl
             rotate_left
             ·
              simp only [Act.put, List.setIfInBounds_toArray, List.set_cons_zero, List.set_cons_succ, i64_w, i32_w, IntKind.wrap_u32]
              rfl
             refine one_ (i := 18) (N := some 77) #[true, true, true, true, true, true, true, true, true, true, true, true, true, true, true, true, true, true, true, false, false] rfl rfl (one_of HT_.out (by kernel_rfl)) (by decide) (fun K hK => ?_)
             refine goes_ Try.func20 (by kernel_rfl) rfl #[.slice A102 y25.length c102, .slice A1_2 l1_2.length c1_2] (by rfl) rfl rfl (by (try simp only [List.map_toArray, List.map_cons, List.map_nil]); first | done | rfl | (simp only [List.length_drop, List.length_take]; rfl)) ?_
             with_reducible refine (q9z.calls kj5 _ _ y25 _ _ l1_2 t29 _ ?side1 ?side2 ?side3 ?side4 A87.out).mono ?_
             (case side1 => repeat (first | exact (by repeat (first | (with_reducible exact HR28.out) | (with_reducible refine Kd.C_alloc ?_ _) | (with_reducible refine Kd.C_drewN ?_ _) | (with_reducible refine Kd.C_drew ?_) | exact HR28.out)) | (with_reducible refine Kd.C_alloc ?_ _) | (with_reducible refine Kd.C_drewN ?_ _) | (with_reducible refine Kd.C_drew ?_)))
             (case side2 => exact HC28.out)
             (case side3 => repeat (first | exact (Kd.C_below HR1_2.out (hbW HB)) | (with_reducible refine Kd.C_alloc ?_ _) | (with_reducible refine Kd.C_drewN ?_ _) | (with_reducible refine Kd.C_drew ?_)))
             (case side4 => exact HC1_2.out)
             rintro e w' ⟨rfl, ⟨nd, rfl⟩⟩
             refine ⟨_, rfl, ?_⟩
             refine hK.out _ _ (bk8 BK19 (bk4 BK1 (bl8 BK2))) (fun hHeld => ?_)
             clear hK K
             refine norm_ (a' := ?_) ?_ ?_
             rotate_left
             ·
              show Act.put _ (some 77) _ = _
              simp only [Act.put, List.setIfInBounds_toArray, List.set_cons_zero, List.set_cons_succ, i64_w, i32_w, IntKind.wrap_u32]
              rfl
             refine pure_ (i := 19) (N := some 78) (v := ?_) (a' := ?_) #[true, true, true, true, true, true, true, true, true, true, true, true, true, true, true, true, true, true, true, true, false] rfl rfl (any_of HT_.out (by kernel_rfl)) (fun _ _ _ h => h) (Or.inl ⟨by rfl, ?_⟩) ?_ ?_
             rotate_left
             ·
              intro w'
              go_simp
              with_reducible rfl
             rotate_left
             ·
              simp only [Act.put, List.setIfInBounds_toArray, List.set_cons_zero, List.set_cons_succ, i64_w, i32_w, IntKind.wrap_u32]
              rfl
             refine pure_ (i := 20) (N := some 6) (v := ?_) (a' := ?_) #[true, true, true, true, true, true, true, true, true, true, true, true, true, true, true, true, true, true, true, true, true] rfl rfl (any_of HT_.out (by kernel_rfl)) (fun _ _ _ h => h) (Or.inl ⟨by rfl, ?_⟩) ?_ ?_
             rotate_left
             ·
              intro w'
              go_simp
              with_reducible rfl
             rotate_left
             ·
              simp only [Act.put, List.setIfInBounds_toArray, List.set_cons_zero, List.set_cons_succ, i64_w, i32_w, IntKind.wrap_u32]
              rfl
             refine done_ (done_of HT_.out (by kernel_rfl)) ?_
             try go_wp2
             go_ret
             exact ⟨by first | rfl | (simp [errW_none, errW_some] <;> rfl) | (simp [*, errW_none, errW_some] <;> rfl), hbW HB⟩
            ·
             replace c84 := Bool.eq_false_iff.mpr c84
             subst c84
             have H1 : (some false) = some r := by rw [if_neg (show ¬ (false = true) by decide)] at H; exact H
             clear H
             have H := H1
             clear H1
             obtain rfl := Option.some.inj H
             have hnb103 := NB1_2.out
             have hnc103 := NB2_1.out
             obtain ⟨hcz104_0, hcz104_1, hcz104_2, hcz104_3, hfz104_0, hfz104_1, hfz104_2, hfz104_3⟩ := bc4 BK1
             obtain ⟨hcz105_0, hcz105_1, hcz105_2, hcz105_3, hcz105_4, hcz105_5, hcz105_6, hcz105_7, hfz105_0, hfz105_1, hfz105_2, hfz105_3, hfz105_4, hfz105_5, hfz105_6, hfz105_7⟩ := bc8 BK2
             try go_wp2_with (first | ((with_reducible refine gate_callee (f := 13) rfl ?_); refine goesL_ (some 24) rfl rfl Try.func13 (by kernel_rfl) rfl #[.agg #[.int .i64 a0_0, .int .u32 a0_1, .slice A0_2 l0_2.length c0_2, .slice A0_3 l0_3.length c0_3], .agg #[.int .u32 a1_0, .int .i64 a1_1, .slice A1_2 l1_2.length c1_2, .slice A1_3 l1_3.length c1_3, .int .u32 a1_4, .int .u32 a1_5, .int .i64 a1_6, .int .u32 a1_7]] rfl (by (try simp only [List.map_toArray, List.map_cons, List.map_nil]); first | done | rfl | (simp only [List.length_drop, List.length_take]; rfl)) ?_; (with_reducible refine (q8z.calls kj5 a0_0 a0_1 (fun k_ => k_ < w.heap.size) _ _ l0_2 _ _ l0_3 a1_0 a1_1 _ _ l1_2 _ _ l1_3 a1_4 a1_5 a1_6 a1_7 t7 t8 t9 t12 t15 t16 t17 t18 _ ?side1 ?side2 ?side3 ?side4 ?side5 ?side6 ?side7 A31.out).mono ?_); (case side1 => exact Kd.V_mk HC0_2.out (Kd.F_below (Kd.C_F (Kd.heap_int .u32) HR0_2.out) (hbW HB))); (case side2 => repeat (first | exact (Kd.C_below HR0_3.out HB.out) | (with_reducible refine Kd.C_alloc ?_ _) | (with_reducible refine Kd.C_drewN ?_ _) | (with_reducible refine Kd.C_drew ?_))); (case side3 => exact HC0_3.out); (case side4 => repeat (first | exact (Kd.C_below HR1_2.out HB.out) | (with_reducible refine Kd.C_alloc ?_ _) | (with_reducible refine Kd.C_drewN ?_ _) | (with_reducible refine Kd.C_drew ?_))); (case side5 => exact HC1_2.out); (case side6 => repeat (first | exact (Kd.C_below HR1_3.out HB.out) | (with_reducible refine Kd.C_alloc ?_ _) | (with_reducible refine Kd.C_drewN ?_ _) | (with_reducible refine Kd.C_drew ?_))); (case side7 => exact HC1_3.out); rintro e w106 ⟨v10, v13, rfl, ho0, ho1, hb⟩; refine ⟨_, rfl, ?_⟩; have HO11 := Aside0.mk (Kd.R_lower (Kd.R_mono (ok' := fun k_ => some k_ ≠ (v13 : Value).ownBlock) ho0 (fun _ hk_ => hk_.2)) (below_size (hbW HB))); have HO14 := Aside0.mk (Kd.R_lower (Kd.R_mono (ok' := fun k_ => some k_ ≠ (v10 : Value).ownBlock) ho1 (fun _ hk_ => hk_.2)) (below_size (hbW HB))); replace BK1 := bkB BK1 hb; replace BK5 := bkB BK5 hb; replace BK2 := bkB BK2 hb; replace HB := hbS HB hb; (try clear hb); (try clear ho0); (try clear ho1)) | ((with_reducible refine gate_dst (N := 7) rfl ?_); (try (refine gate_guard (by rfl) ?_; dsimp only)); refine box_event ?hg (N := 7) ?hd (cs := #[.int .u32 0, .int .i64 0, .slice none 0 0, .slice none 0 0, .int .u32 0, .int .u32 0, .int .i64 0, .int .u32 0]) (t := 30) ?hr ?_; (case hd => rfl); (case hg => rfl); (case hr => first | (go_simp; done) | (go_simp; rfl)); intro gb19 hg w107 hbox hb; have BK19 := Aside0.mk (hbox); have GW19 := gwS hg HB; have GE19 := gwS hg HB; have NB1_19 := nbL hg BK1; have NB19_1 := nbG hg BK1; have NB5_19 := nbL hg BK5; have NB19_5 := nbG hg BK5; have NB2_19 := nbL hg BK2; have NB19_2 := nbG hg BK2; replace HO11 := Aside0.mk (Kd.R_below (rW HO11) hb); replace HO14 := Aside0.mk (Kd.R_below (rW HO14) hb); replace BK1 := bkB BK1 hb; replace BK5 := bkB BK5 hb; replace BK2 := bkB BK2 hb; replace HB := hbS HB hb; clear hb hbox hg; have hnb108 := NB19_1.out; have hnc108 := NB1_19.out; have hnb109 := NB19_2.out; have hnc109 := NB2_19.out; obtain ⟨hcz110_0, hcz110_1, hcz110_2, hcz110_3, hcz110_4, hcz110_5, hcz110_6, hcz110_7, hfz110_0, hfz110_1, hfz110_2, hfz110_3, hfz110_4, hfz110_5, hfz110_6, hfz110_7⟩ := bc8 BK19; obtain ⟨Ao111, co111, eo111⟩ := Kd.R_slice HO11.out; subst eo111; obtain ⟨Ao112, co112, eo112⟩ := Kd.R_slice HO14.out; subst eo112; obtain ⟨hcz113_0, hcz113_1, hcz113_2, hcz113_3, hfz113_0, hfz113_1, hfz113_2, hfz113_3⟩ := bc4 BK1))
             have n0_ : Aside0 (Kd.R (Kd.int .u32) 22 ((((((((w107.setCell ⟨gb19, 0, none⟩ (.int .u32 t7)).setCell ⟨gb19, 1, none⟩ (.int .i64 t8)).setCell ⟨gb19, 2, none⟩ (.slice Ao111 t9.length co111)).setCell ⟨gb19, 3, none⟩ (.slice Ao112 t12.length co112)).setCell ⟨gb19, 4, none⟩ (.int .u32 t15)).setCell ⟨gb19, 5, none⟩ (.int .u32 t16)).setCell ⟨gb19, 6, none⟩ (.int .i64 t17)).setCell ⟨gb19, 7, none⟩ (.int .u32 t18)) w.heap.size (fun k_ => some k_ ≠ (.slice Ao112 t12.length co112 : Value).ownBlock) (.slice Ao111 t9.length co111) t9) := ⟨moR (rW HO11)⟩
             have n1_ : Aside0 (Kd.R (Kd.int .u32) 22 ((((((((w107.setCell ⟨gb19, 0, none⟩ (.int .u32 t7)).setCell ⟨gb19, 1, none⟩ (.int .i64 t8)).setCell ⟨gb19, 2, none⟩ (.slice Ao111 t9.length co111)).setCell ⟨gb19, 3, none⟩ (.slice Ao112 t12.length co112)).setCell ⟨gb19, 4, none⟩ (.int .u32 t15)).setCell ⟨gb19, 5, none⟩ (.int .u32 t16)).setCell ⟨gb19, 6, none⟩ (.int .i64 t17)).setCell ⟨gb19, 7, none⟩ (.int .u32 t18)) w.heap.size (fun k_ => some k_ ≠ (.slice Ao111 t9.length co111 : Value).ownBlock) (.slice Ao112 t12.length co112) t12) := ⟨moR (rW HO14)⟩
             have n2_ : Aside0 (((((((((w107.setCell ⟨gb19, 0, none⟩ (.int .u32 t7)).setCell ⟨gb19, 1, none⟩ (.int .i64 t8)).setCell ⟨gb19, 2, none⟩ (.slice Ao111 t9.length co111)).setCell ⟨gb19, 3, none⟩ (.slice Ao112 t12.length co112)).setCell ⟨gb19, 4, none⟩ (.int .u32 t15)).setCell ⟨gb19, 5, none⟩ (.int .u32 t16)).setCell ⟨gb19, 6, none⟩ (.int .i64 t17)).setCell ⟨gb19, 7, none⟩ (.int .u32 t18)).heap[gb1]? = some (.cells #[.int .i64 a0_0, .int .u32 a0_1, .slice A0_2 l0_2.length c0_2, .slice A0_3 l0_3.length c0_3] 26 (0, 0))) := ⟨by (with_reducible repeat (first | refine blk_drewN ?_ _ | refine blk_drew ?_ | refine blk_alloc ?_ _)); refine blk_far ?_ NB1_19.out _; (with_reducible repeat (first | refine blk_drewN ?_ _ | refine blk_drew ?_ | refine blk_alloc ?_ _)); refine blk_far ?_ NB1_19.out _; (with_reducible repeat (first | refine blk_drewN ?_ _ | refine blk_drew ?_ | refine blk_alloc ?_ _)); refine blk_far ?_ NB1_19.out _; (with_reducible repeat (first | refine blk_drewN ?_ _ | refine blk_drew ?_ | refine blk_alloc ?_ _)); refine blk_far ?_ NB1_19.out _; (with_reducible repeat (first | refine blk_drewN ?_ _ | refine blk_drew ?_ | refine blk_alloc ?_ _)); refine blk_far ?_ NB1_19.out _; (with_reducible repeat (first | refine blk_drewN ?_ _ | refine blk_drew ?_ | refine blk_alloc ?_ _)); refine blk_far ?_ NB1_19.out _; (with_reducible repeat (first | refine blk_drewN ?_ _ | refine blk_drew ?_ | refine blk_alloc ?_ _)); refine blk_far ?_ NB1_19.out _; (with_reducible repeat (first | refine blk_drewN ?_ _ | refine blk_drew ?_ | refine blk_alloc ?_ _)); refine blk_far ?_ NB1_19.out _; (with_reducible repeat (first | refine blk_drewN ?_ _ | refine blk_drew ?_ | refine blk_alloc ?_ _)); exact BK1.out⟩
             have n99_ : Aside0 (((((((((w107.setCell ⟨gb19, 0, none⟩ (.int .u32 t7)).setCell ⟨gb19, 1, none⟩ (.int .i64 t8)).setCell ⟨gb19, 2, none⟩ (.slice Ao111 t9.length co111)).setCell ⟨gb19, 3, none⟩ (.slice Ao112 t12.length co112)).setCell ⟨gb19, 4, none⟩ (.int .u32 t15)).setCell ⟨gb19, 5, none⟩ (.int .u32 t16)).setCell ⟨gb19, 6, none⟩ (.int .i64 t17)).setCell ⟨gb19, 7, none⟩ (.int .u32 t18)).heap[gb5]? = some (.cells #[.int .u32 a2] 22 (0, 0))) := ⟨bkV BK5⟩
             have n3_ : Aside0 (((((((((w107.setCell ⟨gb19, 0, none⟩ (.int .u32 t7)).setCell ⟨gb19, 1, none⟩ (.int .i64 t8)).setCell ⟨gb19, 2, none⟩ (.slice Ao111 t9.length co111)).setCell ⟨gb19, 3, none⟩ (.slice Ao112 t12.length co112)).setCell ⟨gb19, 4, none⟩ (.int .u32 t15)).setCell ⟨gb19, 5, none⟩ (.int .u32 t16)).setCell ⟨gb19, 6, none⟩ (.int .i64 t17)).setCell ⟨gb19, 7, none⟩ (.int .u32 t18)).heap[gb2]? = some (.cells #[.int .u32 a1_0, .int .i64 a1_1, .slice A1_2 l1_2.length c1_2, .slice A1_3 l1_3.length c1_3, .int .u32 a1_4, .int .u32 a1_5, .int .i64 a1_6, .int .u32 a1_7] 30 (0, 0))) := ⟨by (with_reducible repeat (first | refine blk_drewN ?_ _ | refine blk_drew ?_ | refine blk_alloc ?_ _)); refine blk_far ?_ NB2_19.out _; (with_reducible repeat (first | refine blk_drewN ?_ _ | refine blk_drew ?_ | refine blk_alloc ?_ _)); refine blk_far ?_ NB2_19.out _; (with_reducible repeat (first | refine blk_drewN ?_ _ | refine blk_drew ?_ | refine blk_alloc ?_ _)); refine blk_far ?_ NB2_19.out _; (with_reducible repeat (first | refine blk_drewN ?_ _ | refine blk_drew ?_ | refine blk_alloc ?_ _)); refine blk_far ?_ NB2_19.out _; (with_reducible repeat (first | refine blk_drewN ?_ _ | refine blk_drew ?_ | refine blk_alloc ?_ _)); refine blk_far ?_ NB2_19.out _; (with_reducible repeat (first | refine blk_drewN ?_ _ | refine blk_drew ?_ | refine blk_alloc ?_ _)); refine blk_far ?_ NB2_19.out _; (with_reducible repeat (first | refine blk_drewN ?_ _ | refine blk_drew ?_ | refine blk_alloc ?_ _)); refine blk_far ?_ NB2_19.out _; (with_reducible repeat (first | refine blk_drewN ?_ _ | refine blk_drew ?_ | refine blk_alloc ?_ _)); refine blk_far ?_ NB2_19.out _; (with_reducible repeat (first | refine blk_drewN ?_ _ | refine blk_drew ?_ | refine blk_alloc ?_ _)); exact BK2.out⟩
             have n4_ : Aside0 (((((((((w107.setCell ⟨gb19, 0, none⟩ (.int .u32 t7)).setCell ⟨gb19, 1, none⟩ (.int .i64 t8)).setCell ⟨gb19, 2, none⟩ (.slice Ao111 t9.length co111)).setCell ⟨gb19, 3, none⟩ (.slice Ao112 t12.length co112)).setCell ⟨gb19, 4, none⟩ (.int .u32 t15)).setCell ⟨gb19, 5, none⟩ (.int .u32 t16)).setCell ⟨gb19, 6, none⟩ (.int .i64 t17)).setCell ⟨gb19, 7, none⟩ (.int .u32 t18)).heap[gb19]? = some (.cells #[.int .u32 t7, .int .i64 t8, .slice Ao111 t9.length co111, .slice Ao112 t12.length co112, .int .u32 t15, .int .u32 t16, .int .i64 t17, .int .u32 t18] 30 (0, 0))) := ⟨by (with_reducible repeat (first | refine blk_drewN ?_ _ | refine blk_drew ?_ | refine blk_alloc ?_ _)); refine blk_put (cs := #[.int .u32 t7, .int .i64 t8, .slice Ao111 t9.length co111, .slice Ao112 t12.length co112, .int .u32 t15, .int .u32 t16, .int .i64 t17, .int .u32 0]) ?_ 7 _ rfl; (with_reducible repeat (first | refine blk_drewN ?_ _ | refine blk_drew ?_ | refine blk_alloc ?_ _)); refine blk_put (cs := #[.int .u32 t7, .int .i64 t8, .slice Ao111 t9.length co111, .slice Ao112 t12.length co112, .int .u32 t15, .int .u32 t16, .int .i64 0, .int .u32 0]) ?_ 6 _ rfl; (with_reducible repeat (first | refine blk_drewN ?_ _ | refine blk_drew ?_ | refine blk_alloc ?_ _)); refine blk_put (cs := #[.int .u32 t7, .int .i64 t8, .slice Ao111 t9.length co111, .slice Ao112 t12.length co112, .int .u32 t15, .int .u32 0, .int .i64 0, .int .u32 0]) ?_ 5 _ rfl; (with_reducible repeat (first | refine blk_drewN ?_ _ | refine blk_drew ?_ | refine blk_alloc ?_ _)); refine blk_put (cs := #[.int .u32 t7, .int .i64 t8, .slice Ao111 t9.length co111, .slice Ao112 t12.length co112, .int .u32 0, .int .u32 0, .int .i64 0, .int .u32 0]) ?_ 4 _ rfl; (with_reducible repeat (first | refine blk_drewN ?_ _ | refine blk_drew ?_ | refine blk_alloc ?_ _)); refine blk_put (cs := #[.int .u32 t7, .int .i64 t8, .slice Ao111 t9.length co111, .slice none 0 0, .int .u32 0, .int .u32 0, .int .i64 0, .int .u32 0]) ?_ 3 _ rfl; (with_reducible repeat (first | refine blk_drewN ?_ _ | refine blk_drew ?_ | refine blk_alloc ?_ _)); refine blk_put (cs := #[.int .u32 t7, .int .i64 t8, .slice none 0 0, .slice none 0 0, .int .u32 0, .int .u32 0, .int .i64 0, .int .u32 0]) ?_ 2 _ rfl; (with_reducible repeat (first | refine blk_drewN ?_ _ | refine blk_drew ?_ | refine blk_alloc ?_ _)); refine blk_put (cs := #[.int .u32 t7, .int .i64 0, .slice none 0 0, .slice none 0 0, .int .u32 0, .int .u32 0, .int .i64 0, .int .u32 0]) ?_ 1 _ rfl; (with_reducible repeat (first | refine blk_drewN ?_ _ | refine blk_drew ?_ | refine blk_alloc ?_ _)); refine blk_put (cs := #[.int .u32 0, .int .i64 0, .slice none 0 0, .slice none 0 0, .int .u32 0, .int .u32 0, .int .i64 0, .int .u32 0]) ?_ 0 _ rfl; (with_reducible repeat (first | refine blk_drewN ?_ _ | refine blk_drew ?_ | refine blk_alloc ?_ _)); exact BK19.out⟩
             have n5_ : Aside0 (Below w.heap.size w ((((((((w107.setCell ⟨gb19, 0, none⟩ (.int .u32 t7)).setCell ⟨gb19, 1, none⟩ (.int .i64 t8)).setCell ⟨gb19, 2, none⟩ (.slice Ao111 t9.length co111)).setCell ⟨gb19, 3, none⟩ (.slice Ao112 t12.length co112)).setCell ⟨gb19, 4, none⟩ (.int .u32 t15)).setCell ⟨gb19, 5, none⟩ (.int .u32 t16)).setCell ⟨gb19, 6, none⟩ (.int .i64 t17)).setCell ⟨gb19, 7, none⟩ (.int .u32 t18))) := ⟨hbW HB⟩
             (try clear HO11)
             (try clear HO14)
             (try clear BK1)
             (try clear BK5)
             (try clear BK2)
             (try clear BK19)
             (try clear HB)
             generalize ((((((((w107.setCell ⟨gb19, 0, none⟩ (.int .u32 t7)).setCell ⟨gb19, 1, none⟩ (.int .i64 t8)).setCell ⟨gb19, 2, none⟩ (.slice Ao111 t9.length co111)).setCell ⟨gb19, 3, none⟩ (.slice Ao112 t12.length co112)).setCell ⟨gb19, 4, none⟩ (.int .u32 t15)).setCell ⟨gb19, 5, none⟩ (.int .u32 t16)).setCell ⟨gb19, 6, none⟩ (.int .i64 t17)).setCell ⟨gb19, 7, none⟩ (.int .u32 t18)) = w114 at n99_ n0_ n1_ n2_ n3_ n4_ n5_ ⊢
             have HO11 := n0_
             have HO14 := n1_
             have BK1 := n2_
             have BK5 := n99_
             have BK2 := n3_
             have BK19 := n4_
             have HB := n5_
             clear n0_ n1_ n2_ n3_ n4_ n5_ n99_
             replace HO11 := Aside0.mk (Kd.R_drew HO11.out)
             replace HO14 := Aside0.mk (Kd.R_drew HO14.out)
             replace BK1 := Aside0.mk (blk_drew BK1.out); replace BK5 := Aside0.mk (blk_drew BK5.out)
             replace BK2 := Aside0.mk (blk_drew BK2.out)
             replace BK19 := Aside0.mk (blk_drew BK19.out)
             replace HB := Aside0.mk (below_drew1 HB.out)
             have q116 : ((l0_2.length : Int) : Int) ≤ ((t9.length : Int) : Int) := of_decide_eq_true (by first | (with_reducible assumption) | assumption)
             obtain ⟨i0116, hi0116, _, hsz116, _⟩ := info_parts info22
             have hroom116 : t9.length ≤ co111 := (Kd.R_reads' HO11.out).2.1
             have hC116 : Kd.C (Kd.int .u32) _ Ao111 t9.length t9 := (Kd.R_reads' HO11.out).2.2
             have hcut116 := cut_to (P := Try.prog) 23 22 .i64 Try.underlying23 hi0116 Ao111 t9.length co111 (l0_2.length : Int) (of_decide_eq_true (by first | (with_reducible assumption) | assumption)) q116 hroom116
             have hr116 := Kd.C_take (m := ((l0_2.length : Int) : Int).toNat) hC116 (by omega)
             have hy116 : y20.length = ((l0_2.length : Int) : Int).toNat := (by rw [Ny20.out, List.length_take]; omega)
             rw [← Ny20.out] at hr116
             rw [← hy116] at hcut116
             have HR23 := Aside0.mk hr116
             have HC23 := Aside0.mk (show y20.length ≤ co111 from by omega)
             clear hr116 hC116 hroom116 hi0116 hsz116
             have KY116 := Aside0.mk hy116
             clear hy116
             have KL116 := Aside0.mk (show ((l0_2.length : Int) : Int).toNat ≤ t9.length from by omega)
             replace q116 := eq_true q116
             refine start_ (n := 21) (S := fun w' => w'.cell? ⟨gb19, 0, none⟩ = some (.int .u32 t7) ∧ w'.cell? ⟨gb19, 1, none⟩ = some (.int .i64 t8) ∧ w'.cell? ⟨gb19, 2, none⟩ = some (.slice Ao111 t9.length co111) ∧ w'.cell? ⟨gb19, 3, none⟩ = some (.slice Ao112 t12.length co112) ∧ w'.cell? ⟨gb19, 4, none⟩ = some (.int .u32 t15) ∧ w'.cell? ⟨gb19, 5, none⟩ = some (.int .u32 t16) ∧ w'.cell? ⟨gb19, 6, none⟩ = some (.int .i64 t17) ∧ w'.cell? ⟨gb19, 7, none⟩ = some (.int .u32 t18) ∧ w'.cell? ⟨gb1, 0, none⟩ = some (.int .i64 a0_0) ∧ w'.cell? ⟨gb1, 1, none⟩ = some (.int .u32 a0_1) ∧ w'.cell? ⟨gb1, 2, none⟩ = some (.slice A0_2 l0_2.length c0_2) ∧ w'.cell? ⟨gb1, 3, none⟩ = some (.slice A0_3 l0_3.length c0_3)) (ds := []) #[false, false, false, false, false, false, false, false, false, false, false, false, false, false, false, false, false, false, false, false, false] (by kernel_rfl) rfl rfl (bk8 BK19 (bl4 BK1)) (fun hHeld => ?_); refine with_tabW q17z.tab17 q17z.bits17 (fun HT_ HW_ => ?_)
             generalize w114.drew = w115 at BK5 HO11 HO14 BK1 BK2 BK19 HB HR23 hHeld ⊢
             refine pure_ (i := 0) (N := some 59) (v := ?_) (a' := ?_) #[true, false, false, false, false, false, false, false, false, false, false, false, false, false, false, false, false, false, false, false, false] rfl rfl (any_of HT_.out (by kernel_rfl)) (fun _ _ _ h => h) (Or.inl ⟨by rfl, ?_⟩) ?_ ?_
             rotate_left
             ·
              intro w'
              go_simp
              with_reducible rfl
             rotate_left
             ·
              simp only [Act.put, List.setIfInBounds_toArray, List.set_cons_zero, List.set_cons_succ, i64_w, i32_w, IntKind.wrap_u32]
              rfl
             refine pure_ (i := 2) (N := some 61) (v := ?_) (a' := ?_) #[true, false, true, false, false, false, false, false, false, false, false, false, false, false, false, false, false, false, false, false, false] rfl rfl (any_of HT_.out (by kernel_rfl)) (fun _ _ _ h => h) (Or.inl ⟨by rfl, ?_⟩) ?_ ?_
             rotate_left
             ·
              intro w'
              go_simp
              with_reducible rfl
             rotate_left
             ·
              simp only [Act.put, List.setIfInBounds_toArray, List.set_cons_zero, List.set_cons_succ, i64_w, i32_w, IntKind.wrap_u32]
              rfl
             refine pure_ (i := 6) (N := some 65) (v := ?_) (a' := ?_) #[true, false, true, false, false, false, true, false, false, false, false, false, false, false, false, false, false, false, false, false, false] rfl rfl (any_of HT_.out (by kernel_rfl)) (fun _ _ _ h => h) (Or.inl ⟨by rfl, ?_⟩) ?_ ?_
             rotate_left
             ·
              intro w'
              go_simp
              with_reducible rfl
             rotate_left
             ·
              simp only [Act.put, List.setIfInBounds_toArray, List.set_cons_zero, List.set_cons_succ, i64_w, i32_w, IntKind.wrap_u32]
              rfl
             refine take_ (i := 1) (N := some 60) (v := ?_) (a' := ?_) #[true, true, true, false, false, false, true, false, false, false, false, false, false, false, false, false, false, false, false, false, false] rfl rfl (take_ofW HT_.out HW_.out (by kernel_rfl)) (fun _ _ _ h => h) (Or.inl ⟨by rfl, ?_⟩) hHeld ?_ ?_
             rotate_left
             ·
              rintro w' ⟨s0, s1, s2, s3, s4, s5, s6, s7, s8, s9, s10, s11⟩
              go_simp
              with_reducible rfl
             rotate_left
             ·
              simp only [Act.put, List.setIfInBounds_toArray, List.set_cons_zero, List.set_cons_succ, i64_w, i32_w, IntKind.wrap_u32]
              rfl
             refine take_ (i := 3) (N := some 62) (v := ?_) (a' := ?_) #[true, true, true, true, false, false, true, false, false, false, false, false, false, false, false, false, false, false, false, false, false] rfl rfl (take_ofW HT_.out HW_.out (by kernel_rfl)) (fun _ _ _ h => h) (Or.inl ⟨by rfl, ?_⟩) hHeld ?_ ?_
             rotate_left
             ·
              rintro w' ⟨s0, s1, s2, s3, s4, s5, s6, s7, s8, s9, s10, s11⟩
              go_simp
              with_reducible rfl
             rotate_left
             ·
              simp only [Act.put, List.setIfInBounds_toArray, List.set_cons_zero, List.set_cons_succ, i64_w, i32_w, IntKind.wrap_u32]
              rfl
             refine pure_ (i := 4) (N := some 63) (v := ?_) (a' := ?_) #[true, true, true, true, true, false, true, false, false, false, false, false, false, false, false, false, false, false, false, false, false] rfl rfl (any_of HT_.out (by kernel_rfl)) (fun _ _ _ h => h) (Or.inl ⟨by rfl, ?_⟩) ?_ ?_
             rotate_left
             ·
              intro w'
              go_simp
              with_reducible rfl
             rotate_left
             ·
              simp only [Act.put, List.setIfInBounds_toArray, List.set_cons_zero, List.set_cons_succ, i64_w, i32_w, IntKind.wrap_u32]
              rfl
             refine pure_ (i := 5) (N := some 64) (v := ?_) (a' := ?_) #[true, true, true, true, true, true, true, false, false, false, false, false, false, false, false, false, false, false, false, false, false] rfl rfl (any_of HT_.out (by kernel_rfl)) (fun _ _ _ h => h) (Or.inl ⟨by rfl, ?_⟩) ?_ ?_
             rotate_left
             ·
              intro w'
              go_simp
              with_reducible rfl
             rotate_left
             ·
              simp only [Act.put, List.setIfInBounds_toArray, List.set_cons_zero, List.set_cons_succ, i64_w, i32_w, IntKind.wrap_u32]
              rfl
             refine take_ (i := 7) (N := some 66) (v := ?_) (a' := ?_) #[true, true, true, true, true, true, true, true, false, false, false, false, false, false, false, false, false, false, false, false, false] rfl rfl (take_ofW HT_.out HW_.out (by kernel_rfl)) (fun _ _ _ h => h) (Or.inl ⟨by rfl, ?_⟩) hHeld ?_ ?_
             rotate_left
             ·
              rintro w' ⟨s0, s1, s2, s3, s4, s5, s6, s7, s8, s9, s10, s11⟩
              go_simp
              with_reducible rfl
             rotate_left
             ·
              simp only [Act.put, List.setIfInBounds_toArray, List.set_cons_zero, List.set_cons_succ, i64_w, i32_w, IntKind.wrap_u32]
              rfl
             refine one_ (i := 8) (N := some 67) #[true, true, true, true, true, true, true, true, true, false, false, false, false, false, false, false, false, false, false, false, false] rfl rfl (one_of HT_.out (by kernel_rfl)) (by decide) (fun K hK => ?_)
             refine goes_ Try.func20 (by kernel_rfl) rfl #[.slice Ao111 y20.length co111, .slice A0_2 l0_2.length c0_2] (by rfl) rfl rfl (by (try simp only [List.map_toArray, List.map_cons, List.map_nil]); first | done | rfl | (simp only [List.length_drop, List.length_take]; rfl)) ?_
             with_reducible refine (q9z.calls kj5 _ _ y20 _ _ l0_2 false _ ?side1 ?side2 ?side3 ?side4 A83.out).mono ?_
             (case side1 => repeat (first | exact (by repeat (first | (with_reducible exact HR23.out) | (with_reducible refine Kd.C_alloc ?_ _) | (with_reducible refine Kd.C_drewN ?_ _) | (with_reducible refine Kd.C_drew ?_) | exact HR23.out)) | (with_reducible refine Kd.C_alloc ?_ _) | (with_reducible refine Kd.C_drewN ?_ _) | (with_reducible refine Kd.C_drew ?_)))
             (case side2 => exact HC23.out)
             (case side3 => repeat (first | exact (Kd.C_below HR0_2.out HB.out) | (with_reducible refine Kd.C_alloc ?_ _) | (with_reducible refine Kd.C_drewN ?_ _) | (with_reducible refine Kd.C_drew ?_)))
             (case side4 => exact HC0_2.out)
             rintro e w' ⟨rfl, ⟨nd, rfl⟩⟩
             refine ⟨_, rfl, ?_⟩
             refine hK.out _ _ (bk8 BK19 (bl4 BK1)) (fun hHeld => ?_)
             clear hK K
             refine norm_ (a' := ?_) ?_ ?_
             rotate_left
             ·
              show Act.put _ (some 67) _ = _
              simp only [Act.put, List.setIfInBounds_toArray, List.set_cons_zero, List.set_cons_succ, i64_w, i32_w, IntKind.wrap_u32]
              rfl
             refine pure_ (i := 9) (N := some 68) (v := ?_) (a' := ?_) #[true, true, true, true, true, true, true, true, true, true, false, false, false, false, false, false, false, false, false, false, false] rfl rfl (any_of HT_.out (by kernel_rfl)) (fun _ _ _ h => h) (Or.inl ⟨by rfl, ?_⟩) ?_ ?_
             rotate_left
             ·
              intro w'
              go_simp
              with_reducible rfl
             rotate_left
             ·
              simp only [Act.put, List.setIfInBounds_toArray, List.set_cons_zero, List.set_cons_succ, i64_w, i32_w, IntKind.wrap_u32]
              rfl
             refine pure_ (i := 10) (N := some 69) (v := undef) (a' := ?_) #[true, true, true, true, true, true, true, true, true, true, true, false, false, false, false, false, false, false, false, false, false] rfl rfl (any_of HT_.out (by kernel_rfl)) (fun _ _ _ h => h) (Or.inr ⟨by rfl, rfl⟩) ?_ ?_
             rotate_left
             ·
              simp only [Act.put, List.setIfInBounds_toArray, List.set_cons_zero, List.set_cons_succ, i64_w, i32_w, IntKind.wrap_u32]
              rfl
             refine pure_ (i := 11) (N := some 70) (v := undef) (a' := ?_) #[true, true, true, true, true, true, true, true, true, true, true, true, false, false, false, false, false, false, false, false, false] rfl rfl (any_of HT_.out (by kernel_rfl)) (fun _ _ _ h => h) (Or.inr ⟨by rfl, rfl⟩) ?_ ?_
             rotate_left
             ·
              simp only [Act.put, List.setIfInBounds_toArray, List.set_cons_zero, List.set_cons_succ, i64_w, i32_w, IntKind.wrap_u32]
              rfl
             refine pure_ (i := 12) (N := some 71) (v := undef) (a' := ?_) #[true, true, true, true, true, true, true, true, true, true, true, true, true, false, false, false, false, false, false, false, false] rfl rfl (any_of HT_.out (by kernel_rfl)) (fun _ _ _ h => h) (Or.inr ⟨by rfl, rfl⟩) ?_ ?_
             rotate_left
             ·
              simp only [Act.put, List.setIfInBounds_toArray, List.set_cons_zero, List.set_cons_succ, i64_w, i32_w, IntKind.wrap_u32]
              rfl
             refine pure_ (i := 13) (N := some 72) (v := undef) (a' := ?_) #[true, true, true, true, true, true, true, true, true, true, true, true, true, true, false, false, false, false, false, false, false] rfl rfl (any_of HT_.out (by kernel_rfl)) (fun _ _ _ h => h) (Or.inr ⟨by rfl, rfl⟩) ?_ ?_
             rotate_left
             ·
              simp only [Act.put, List.setIfInBounds_toArray, List.set_cons_zero, List.set_cons_succ, i64_w, i32_w, IntKind.wrap_u32]
              rfl
             refine pure_ (i := 14) (N := some 73) (v := undef) (a' := ?_) #[true, true, true, true, true, true, true, true, true, true, true, true, true, true, true, false, false, false, false, false, false] rfl rfl (any_of HT_.out (by kernel_rfl)) (fun _ _ _ h => h) (Or.inr ⟨by rfl, rfl⟩) ?_ ?_
             rotate_left
             ·
              simp only [Act.put, List.setIfInBounds_toArray, List.set_cons_zero, List.set_cons_succ, i64_w, i32_w, IntKind.wrap_u32]
              rfl
             refine pure_ (i := 15) (N := some 74) (v := undef) (a' := ?_) #[true, true, true, true, true, true, true, true, true, true, true, true, true, true, true, true, false, false, false, false, false] rfl rfl (any_of HT_.out (by kernel_rfl)) (fun _ _ _ h => h) (Or.inr ⟨by rfl, rfl⟩) ?_ ?_
             rotate_left
             ·
              simp only [Act.put, List.setIfInBounds_toArray, List.set_cons_zero, List.set_cons_succ, i64_w, i32_w, IntKind.wrap_u32]
              rfl
             refine pure_ (i := 16) (N := some 75) (v := undef) (a' := ?_) #[true, true, true, true, true, true, true, true, true, true, true, true, true, true, true, true, true, false, false, false, false] rfl rfl (any_of HT_.out (by kernel_rfl)) (fun _ _ _ h => h) (Or.inr ⟨by rfl, rfl⟩) ?_ ?_
             rotate_left
             ·
              simp only [Act.put, List.setIfInBounds_toArray, List.set_cons_zero, List.set_cons_succ, i64_w, i32_w, IntKind.wrap_u32]
              rfl
             refine pure_ (i := 17) (N := some 76) (v := undef) (a' := ?_) #[true, true, true, true, true, true, true, true, true, true, true, true, true, true, true, true, true, true, false, false, false] rfl rfl (any_of HT_.out (by kernel_rfl)) (fun _ _ _ h => h) (Or.inr ⟨by rfl, rfl⟩) ?_ ?_
             rotate_left
             ·
              simp only [Act.put, List.setIfInBounds_toArray, List.set_cons_zero, List.set_cons_succ, i64_w, i32_w, IntKind.wrap_u32]
              rfl
             refine pure_ (i := 18) (N := some 77) (v := undef) (a' := ?_) #[true, true, true, true, true, true, true, true, true, true, true, true, true, true, true, true, true, true, true, false, false] rfl rfl (any_of HT_.out (by kernel_rfl)) (fun _ _ _ h => h) (Or.inr ⟨by rfl, rfl⟩) ?_ ?_
             rotate_left
             ·
              simp only [Act.put, List.setIfInBounds_toArray, List.set_cons_zero, List.set_cons_succ, i64_w, i32_w, IntKind.wrap_u32]
              rfl
             refine pure_ (i := 19) (N := some 78) (v := ?_) (a' := ?_) #[true, true, true, true, true, true, true, true, true, true, true, true, true, true, true, true, true, true, true, true, false] rfl rfl (any_of HT_.out (by kernel_rfl)) (fun _ _ _ h => h) (Or.inl ⟨by rfl, ?_⟩) ?_ ?_
             rotate_left
             ·
              intro w'
              go_simp
              with_reducible rfl
             rotate_left
             ·
              simp only [Act.put, List.setIfInBounds_toArray, List.set_cons_zero, List.set_cons_succ, i64_w, i32_w, IntKind.wrap_u32]
              rfl
             refine pure_ (i := 20) (N := some 6) (v := ?_) (a' := ?_) #[true, true, true, true, true, true, true, true, true, true, true, true, true, true, true, true, true, true, true, true, true] rfl rfl (any_of HT_.out (by kernel_rfl)) (fun _ _ _ h => h) (Or.inl ⟨by rfl, ?_⟩) ?_ ?_
             rotate_left
             ·
              intro w'
              go_simp
              with_reducible rfl
             rotate_left
             ·
              simp only [Act.put, List.setIfInBounds_toArray, List.set_cons_zero, List.set_cons_succ, i64_w, i32_w, IntKind.wrap_u32]
              rfl
             refine done_ (done_of HT_.out (by kernel_rfl)) ?_
             try go_wp2
             go_ret
             exact ⟨by first | rfl | (simp [errW_none, errW_some] <;> rfl) | (simp [*, errW_none, errW_some] <;> rfl), hbW HB⟩
           ·
            rw [if_neg c82] at H
            exact absurd H (by simp)
          ·
           rw [if_neg c81] at H
           exact absurd H (by simp)
         ·
          rw [if_neg c80] at H
          have c80b0 : (a0_0 == 5) = false := beq_eq_false_iff_ne.mpr c80
          have c80b1 : (a0_0 != 5) = true := bne_iff_ne.mpr c80
          by_cases c117 : a0_0 = 6
          ·
           rw [if_pos c117] at H
           have c117b0 : (a0_0 == 6) = true := beq_iff_eq.mpr c117
           have c117b1 : (a0_0 != 6) = false := bne_eq_false_iff_eq.mpr c117
           clear c117
           replace H := Option.bind_eq_some_iff.mp H
           obtain ⟨t30, A1180, H⟩ := H
           replace H : ((acts_has.f l0_2 a2).bind fun t31 => (if t31 = true then (some (t30 == true)) else ((acts_has.f l1_3 a2).bind fun t32 => (some (t30 == t32))))) = some r := H
           have A118 := Aside0.mk A1180
           clear A1180
           replace H := Option.bind_eq_some_iff.mp H
           obtain ⟨t31, A1190, H⟩ := H
           replace H : (if t31 = true then (some (t30 == true)) else ((acts_has.f l1_3 a2).bind fun t32 => (some (t30 == t32)))) = some r := H
           have A119 := Aside0.mk A1190
           clear A1190
           by_cases c120 : t31 = true
           ·
            subst c120
            have H1 : (some (t30 == true)) = some r := by rw [if_pos rfl] at H; exact H
            clear H
            have H := H1
            clear H1
            obtain rfl := Option.some.inj H
            have hnb121 := NB1_2.out
            have hnc121 := NB2_1.out
            obtain ⟨hcz122_0, hcz122_1, hcz122_2, hcz122_3, hfz122_0, hfz122_1, hfz122_2, hfz122_3⟩ := bc4 BK1
            obtain ⟨hcz123_0, hcz123_1, hcz123_2, hcz123_3, hcz123_4, hcz123_5, hcz123_6, hcz123_7, hfz123_0, hfz123_1, hfz123_2, hfz123_3, hfz123_4, hfz123_5, hfz123_6, hfz123_7⟩ := bc8 BK2
            try go_wp2_with (first | ((with_reducible refine gate_callee (f := 13) rfl ?_); refine goesL_ (some 24) rfl rfl Try.func13 (by kernel_rfl) rfl #[.agg #[.int .i64 a0_0, .int .u32 a0_1, .slice A0_2 l0_2.length c0_2, .slice A0_3 l0_3.length c0_3], .agg #[.int .u32 a1_0, .int .i64 a1_1, .slice A1_2 l1_2.length c1_2, .slice A1_3 l1_3.length c1_3, .int .u32 a1_4, .int .u32 a1_5, .int .i64 a1_6, .int .u32 a1_7]] rfl (by (try simp only [List.map_toArray, List.map_cons, List.map_nil]); first | done | rfl | (simp only [List.length_drop, List.length_take]; rfl)) ?_; (with_reducible refine (q8z.calls kj5 a0_0 a0_1 (fun k_ => k_ < w.heap.size) _ _ l0_2 _ _ l0_3 a1_0 a1_1 _ _ l1_2 _ _ l1_3 a1_4 a1_5 a1_6 a1_7 t7 t8 t9 t12 t15 t16 t17 t18 _ ?side1 ?side2 ?side3 ?side4 ?side5 ?side6 ?side7 A31.out).mono ?_); (case side1 => exact Kd.V_mk HC0_2.out (Kd.F_below (Kd.C_F (Kd.heap_int .u32) HR0_2.out) (hbW HB))); (case side2 => repeat (first | exact (Kd.C_below HR0_3.out HB.out) | (with_reducible refine Kd.C_alloc ?_ _) | (with_reducible refine Kd.C_drewN ?_ _) | (with_reducible refine Kd.C_drew ?_))); (case side3 => exact HC0_3.out); (case side4 => repeat (first | exact (Kd.C_below HR1_2.out HB.out) | (with_reducible refine Kd.C_alloc ?_ _) | (with_reducible refine Kd.C_drewN ?_ _) | (with_reducible refine Kd.C_drew ?_))); (case side5 => exact HC1_2.out); (case side6 => repeat (first | exact (Kd.C_below HR1_3.out HB.out) | (with_reducible refine Kd.C_alloc ?_ _) | (with_reducible refine Kd.C_drewN ?_ _) | (with_reducible refine Kd.C_drew ?_))); (case side7 => exact HC1_3.out); rintro e w124 ⟨v10, v13, rfl, ho0, ho1, hb⟩; refine ⟨_, rfl, ?_⟩; have HO11 := Aside0.mk (Kd.R_lower (Kd.R_mono (ok' := fun k_ => some k_ ≠ (v13 : Value).ownBlock) ho0 (fun _ hk_ => hk_.2)) (below_size (hbW HB))); have HO14 := Aside0.mk (Kd.R_lower (Kd.R_mono (ok' := fun k_ => some k_ ≠ (v10 : Value).ownBlock) ho1 (fun _ hk_ => hk_.2)) (below_size (hbW HB))); replace BK1 := bkB BK1 hb; replace BK5 := bkB BK5 hb; replace BK2 := bkB BK2 hb; replace HB := hbS HB hb; (try clear hb); (try clear ho0); (try clear ho1)) | ((with_reducible refine gate_dst (N := 7) rfl ?_); (try (refine gate_guard (by rfl) ?_; dsimp only)); refine box_event ?hg (N := 7) ?hd (cs := #[.int .u32 0, .int .i64 0, .slice none 0 0, .slice none 0 0, .int .u32 0, .int .u32 0, .int .i64 0, .int .u32 0]) (t := 30) ?hr ?_; (case hd => rfl); (case hg => rfl); (case hr => first | (go_simp; done) | (go_simp; rfl)); intro gb19 hg w125 hbox hb; have BK19 := Aside0.mk (hbox); have GW19 := gwS hg HB; have GE19 := gwS hg HB; have NB1_19 := nbL hg BK1; have NB19_1 := nbG hg BK1; have NB5_19 := nbL hg BK5; have NB19_5 := nbG hg BK5; have NB2_19 := nbL hg BK2; have NB19_2 := nbG hg BK2; replace HO11 := Aside0.mk (Kd.R_below (rW HO11) hb); replace HO14 := Aside0.mk (Kd.R_below (rW HO14) hb); replace BK1 := bkB BK1 hb; replace BK5 := bkB BK5 hb; replace BK2 := bkB BK2 hb; replace HB := hbS HB hb; clear hb hbox hg; have hnb126 := NB19_1.out; have hnc126 := NB1_19.out; have hnb127 := NB19_2.out; have hnc127 := NB2_19.out; obtain ⟨hcz128_0, hcz128_1, hcz128_2, hcz128_3, hcz128_4, hcz128_5, hcz128_6, hcz128_7, hfz128_0, hfz128_1, hfz128_2, hfz128_3, hfz128_4, hfz128_5, hfz128_6, hfz128_7⟩ := bc8 BK19; obtain ⟨Ao129, co129, eo129⟩ := Kd.R_slice HO11.out; subst eo129; obtain ⟨Ao130, co130, eo130⟩ := Kd.R_slice HO14.out; subst eo130; obtain ⟨hcz131_0, hcz131_1, hcz131_2, hcz131_3, hfz131_0, hfz131_1, hfz131_2, hfz131_3⟩ := bc4 BK1))
            have n0_ : Aside0 (Kd.R (Kd.int .u32) 22 ((((((((w125.setCell ⟨gb19, 0, none⟩ (.int .u32 t7)).setCell ⟨gb19, 1, none⟩ (.int .i64 t8)).setCell ⟨gb19, 2, none⟩ (.slice Ao129 t9.length co129)).setCell ⟨gb19, 3, none⟩ (.slice Ao130 t12.length co130)).setCell ⟨gb19, 4, none⟩ (.int .u32 t15)).setCell ⟨gb19, 5, none⟩ (.int .u32 t16)).setCell ⟨gb19, 6, none⟩ (.int .i64 t17)).setCell ⟨gb19, 7, none⟩ (.int .u32 t18)) w.heap.size (fun k_ => some k_ ≠ (.slice Ao130 t12.length co130 : Value).ownBlock) (.slice Ao129 t9.length co129) t9) := ⟨moR (rW HO11)⟩
            have n1_ : Aside0 (Kd.R (Kd.int .u32) 22 ((((((((w125.setCell ⟨gb19, 0, none⟩ (.int .u32 t7)).setCell ⟨gb19, 1, none⟩ (.int .i64 t8)).setCell ⟨gb19, 2, none⟩ (.slice Ao129 t9.length co129)).setCell ⟨gb19, 3, none⟩ (.slice Ao130 t12.length co130)).setCell ⟨gb19, 4, none⟩ (.int .u32 t15)).setCell ⟨gb19, 5, none⟩ (.int .u32 t16)).setCell ⟨gb19, 6, none⟩ (.int .i64 t17)).setCell ⟨gb19, 7, none⟩ (.int .u32 t18)) w.heap.size (fun k_ => some k_ ≠ (.slice Ao129 t9.length co129 : Value).ownBlock) (.slice Ao130 t12.length co130) t12) := ⟨moR (rW HO14)⟩
            have n2_ : Aside0 (((((((((w125.setCell ⟨gb19, 0, none⟩ (.int .u32 t7)).setCell ⟨gb19, 1, none⟩ (.int .i64 t8)).setCell ⟨gb19, 2, none⟩ (.slice Ao129 t9.length co129)).setCell ⟨gb19, 3, none⟩ (.slice Ao130 t12.length co130)).setCell ⟨gb19, 4, none⟩ (.int .u32 t15)).setCell ⟨gb19, 5, none⟩ (.int .u32 t16)).setCell ⟨gb19, 6, none⟩ (.int .i64 t17)).setCell ⟨gb19, 7, none⟩ (.int .u32 t18)).heap[gb1]? = some (.cells #[.int .i64 a0_0, .int .u32 a0_1, .slice A0_2 l0_2.length c0_2, .slice A0_3 l0_3.length c0_3] 26 (0, 0))) := ⟨by (with_reducible repeat (first | refine blk_drewN ?_ _ | refine blk_drew ?_ | refine blk_alloc ?_ _)); refine blk_far ?_ NB1_19.out _; (with_reducible repeat (first | refine blk_drewN ?_ _ | refine blk_drew ?_ | refine blk_alloc ?_ _)); refine blk_far ?_ NB1_19.out _; (with_reducible repeat (first | refine blk_drewN ?_ _ | refine blk_drew ?_ | refine blk_alloc ?_ _)); refine blk_far ?_ NB1_19.out _; (with_reducible repeat (first | refine blk_drewN ?_ _ | refine blk_drew ?_ | refine blk_alloc ?_ _)); refine blk_far ?_ NB1_19.out _; (with_reducible repeat (first | refine blk_drewN ?_ _ | refine blk_drew ?_ | refine blk_alloc ?_ _)); refine blk_far ?_ NB1_19.out _; (with_reducible repeat (first | refine blk_drewN ?_ _ | refine blk_drew ?_ | refine blk_alloc ?_ _)); refine blk_far ?_ NB1_19.out _; (with_reducible repeat (first | refine blk_drewN ?_ _ | refine blk_drew ?_ | refine blk_alloc ?_ _)); refine blk_far ?_ NB1_19.out _; (with_reducible repeat (first | refine blk_drewN ?_ _ | refine blk_drew ?_ | refine blk_alloc ?_ _)); refine blk_far ?_ NB1_19.out _; (with_reducible repeat (first | refine blk_drewN ?_ _ | refine blk_drew ?_ | refine blk_alloc ?_ _)); exact BK1.out⟩
            have n99_ : Aside0 (((((((((w125.setCell ⟨gb19, 0, none⟩ (.int .u32 t7)).setCell ⟨gb19, 1, none⟩ (.int .i64 t8)).setCell ⟨gb19, 2, none⟩ (.slice Ao129 t9.length co129)).setCell ⟨gb19, 3, none⟩ (.slice Ao130 t12.length co130)).setCell ⟨gb19, 4, none⟩ (.int .u32 t15)).setCell ⟨gb19, 5, none⟩ (.int .u32 t16)).setCell ⟨gb19, 6, none⟩ (.int .i64 t17)).setCell ⟨gb19, 7, none⟩ (.int .u32 t18)).heap[gb5]? = some (.cells #[.int .u32 a2] 22 (0, 0))) := ⟨bkV BK5⟩
            have n3_ : Aside0 (((((((((w125.setCell ⟨gb19, 0, none⟩ (.int .u32 t7)).setCell ⟨gb19, 1, none⟩ (.int .i64 t8)).setCell ⟨gb19, 2, none⟩ (.slice Ao129 t9.length co129)).setCell ⟨gb19, 3, none⟩ (.slice Ao130 t12.length co130)).setCell ⟨gb19, 4, none⟩ (.int .u32 t15)).setCell ⟨gb19, 5, none⟩ (.int .u32 t16)).setCell ⟨gb19, 6, none⟩ (.int .i64 t17)).setCell ⟨gb19, 7, none⟩ (.int .u32 t18)).heap[gb2]? = some (.cells #[.int .u32 a1_0, .int .i64 a1_1, .slice A1_2 l1_2.length c1_2, .slice A1_3 l1_3.length c1_3, .int .u32 a1_4, .int .u32 a1_5, .int .i64 a1_6, .int .u32 a1_7] 30 (0, 0))) := ⟨by (with_reducible repeat (first | refine blk_drewN ?_ _ | refine blk_drew ?_ | refine blk_alloc ?_ _)); refine blk_far ?_ NB2_19.out _; (with_reducible repeat (first | refine blk_drewN ?_ _ | refine blk_drew ?_ | refine blk_alloc ?_ _)); refine blk_far ?_ NB2_19.out _; (with_reducible repeat (first | refine blk_drewN ?_ _ | refine blk_drew ?_ | refine blk_alloc ?_ _)); refine blk_far ?_ NB2_19.out _; (with_reducible repeat (first | refine blk_drewN ?_ _ | refine blk_drew ?_ | refine blk_alloc ?_ _)); refine blk_far ?_ NB2_19.out _; (with_reducible repeat (first | refine blk_drewN ?_ _ | refine blk_drew ?_ | refine blk_alloc ?_ _)); refine blk_far ?_ NB2_19.out _; (with_reducible repeat (first | refine blk_drewN ?_ _ | refine blk_drew ?_ | refine blk_alloc ?_ _)); refine blk_far ?_ NB2_19.out _; (with_reducible repeat (first | refine blk_drewN ?_ _ | refine blk_drew ?_ | refine blk_alloc ?_ _)); refine blk_far ?_ NB2_19.out _; (with_reducible repeat (first | refine blk_drewN ?_ _ | refine blk_drew ?_ | refine blk_alloc ?_ _)); refine blk_far ?_ NB2_19.out _; (with_reducible repeat (first | refine blk_drewN ?_ _ | refine blk_drew ?_ | refine blk_alloc ?_ _)); exact BK2.out⟩
            have n4_ : Aside0 (((((((((w125.setCell ⟨gb19, 0, none⟩ (.int .u32 t7)).setCell ⟨gb19, 1, none⟩ (.int .i64 t8)).setCell ⟨gb19, 2, none⟩ (.slice Ao129 t9.length co129)).setCell ⟨gb19, 3, none⟩ (.slice Ao130 t12.length co130)).setCell ⟨gb19, 4, none⟩ (.int .u32 t15)).setCell ⟨gb19, 5, none⟩ (.int .u32 t16)).setCell ⟨gb19, 6, none⟩ (.int .i64 t17)).setCell ⟨gb19, 7, none⟩ (.int .u32 t18)).heap[gb19]? = some (.cells #[.int .u32 t7, .int .i64 t8, .slice Ao129 t9.length co129, .slice Ao130 t12.length co130, .int .u32 t15, .int .u32 t16, .int .i64 t17, .int .u32 t18] 30 (0, 0))) := ⟨by (with_reducible repeat (first | refine blk_drewN ?_ _ | refine blk_drew ?_ | refine blk_alloc ?_ _)); refine blk_put (cs := #[.int .u32 t7, .int .i64 t8, .slice Ao129 t9.length co129, .slice Ao130 t12.length co130, .int .u32 t15, .int .u32 t16, .int .i64 t17, .int .u32 0]) ?_ 7 _ rfl; (with_reducible repeat (first | refine blk_drewN ?_ _ | refine blk_drew ?_ | refine blk_alloc ?_ _)); refine blk_put (cs := #[.int .u32 t7, .int .i64 t8, .slice Ao129 t9.length co129, .slice Ao130 t12.length co130, .int .u32 t15, .int .u32 t16, .int .i64 0, .int .u32 0]) ?_ 6 _ rfl; (with_reducible repeat (first | refine blk_drewN ?_ _ | refine blk_drew ?_ | refine blk_alloc ?_ _)); refine blk_put (cs := #[.int .u32 t7, .int .i64 t8, .slice Ao129 t9.length co129, .slice Ao130 t12.length co130, .int .u32 t15, .int .u32 0, .int .i64 0, .int .u32 0]) ?_ 5 _ rfl; (with_reducible repeat (first | refine blk_drewN ?_ _ | refine blk_drew ?_ | refine blk_alloc ?_ _)); refine blk_put (cs := #[.int .u32 t7, .int .i64 t8, .slice Ao129 t9.length co129, .slice Ao130 t12.length co130, .int .u32 0, .int .u32 0, .int .i64 0, .int .u32 0]) ?_ 4 _ rfl; (with_reducible repeat (first | refine blk_drewN ?_ _ | refine blk_drew ?_ | refine blk_alloc ?_ _)); refine blk_put (cs := #[.int .u32 t7, .int .i64 t8, .slice Ao129 t9.length co129, .slice none 0 0, .int .u32 0, .int .u32 0, .int .i64 0, .int .u32 0]) ?_ 3 _ rfl; (with_reducible repeat (first | refine blk_drewN ?_ _ | refine blk_drew ?_ | refine blk_alloc ?_ _)); refine blk_put (cs := #[.int .u32 t7, .int .i64 t8, .slice none 0 0, .slice none 0 0, .int .u32 0, .int .u32 0, .int .i64 0, .int .u32 0]) ?_ 2 _ rfl; (with_reducible repeat (first | refine blk_drewN ?_ _ | refine blk_drew ?_ | refine blk_alloc ?_ _)); refine blk_put (cs := #[.int .u32 t7, .int .i64 0, .slice none 0 0, .slice none 0 0, .int .u32 0, .int .u32 0, .int .i64 0, .int .u32 0]) ?_ 1 _ rfl; (with_reducible repeat (first | refine blk_drewN ?_ _ | refine blk_drew ?_ | refine blk_alloc ?_ _)); refine blk_put (cs := #[.int .u32 0, .int .i64 0, .slice none 0 0, .slice none 0 0, .int .u32 0, .int .u32 0, .int .i64 0, .int .u32 0]) ?_ 0 _ rfl; (with_reducible repeat (first | refine blk_drewN ?_ _ | refine blk_drew ?_ | refine blk_alloc ?_ _)); exact BK19.out⟩
            have n5_ : Aside0 (Below w.heap.size w ((((((((w125.setCell ⟨gb19, 0, none⟩ (.int .u32 t7)).setCell ⟨gb19, 1, none⟩ (.int .i64 t8)).setCell ⟨gb19, 2, none⟩ (.slice Ao129 t9.length co129)).setCell ⟨gb19, 3, none⟩ (.slice Ao130 t12.length co130)).setCell ⟨gb19, 4, none⟩ (.int .u32 t15)).setCell ⟨gb19, 5, none⟩ (.int .u32 t16)).setCell ⟨gb19, 6, none⟩ (.int .i64 t17)).setCell ⟨gb19, 7, none⟩ (.int .u32 t18))) := ⟨hbW HB⟩
            (try clear HO11)
            (try clear HO14)
            (try clear BK1)
            (try clear BK5)
            (try clear BK2)
            (try clear BK19)
            (try clear HB)
            generalize ((((((((w125.setCell ⟨gb19, 0, none⟩ (.int .u32 t7)).setCell ⟨gb19, 1, none⟩ (.int .i64 t8)).setCell ⟨gb19, 2, none⟩ (.slice Ao129 t9.length co129)).setCell ⟨gb19, 3, none⟩ (.slice Ao130 t12.length co130)).setCell ⟨gb19, 4, none⟩ (.int .u32 t15)).setCell ⟨gb19, 5, none⟩ (.int .u32 t16)).setCell ⟨gb19, 6, none⟩ (.int .i64 t17)).setCell ⟨gb19, 7, none⟩ (.int .u32 t18)) = w132 at n99_ n0_ n1_ n2_ n3_ n4_ n5_ ⊢
            have HO11 := n0_
            have HO14 := n1_
            have BK1 := n2_
            have BK5 := n99_
            have BK2 := n3_
            have BK19 := n4_
            have HB := n5_
            clear n0_ n1_ n2_ n3_ n4_ n5_ n99_
            replace HO11 := Aside0.mk (Kd.R_drew HO11.out)
            replace HO14 := Aside0.mk (Kd.R_drew HO14.out)
            replace BK1 := Aside0.mk (blk_drew BK1.out); replace BK5 := Aside0.mk (blk_drew BK5.out)
            replace BK2 := Aside0.mk (blk_drew BK2.out)
            replace BK19 := Aside0.mk (blk_drew BK19.out)
            replace HB := Aside0.mk (below_drew1 HB.out)
            refine start_ (n := 16) (S := fun w' => w'.cell? ⟨gb19, 0, none⟩ = some (.int .u32 t7) ∧ w'.cell? ⟨gb19, 1, none⟩ = some (.int .i64 t8) ∧ w'.cell? ⟨gb19, 2, none⟩ = some (.slice Ao129 t9.length co129) ∧ w'.cell? ⟨gb19, 3, none⟩ = some (.slice Ao130 t12.length co130) ∧ w'.cell? ⟨gb19, 4, none⟩ = some (.int .u32 t15) ∧ w'.cell? ⟨gb19, 5, none⟩ = some (.int .u32 t16) ∧ w'.cell? ⟨gb19, 6, none⟩ = some (.int .i64 t17) ∧ w'.cell? ⟨gb19, 7, none⟩ = some (.int .u32 t18) ∧ w'.cell? ⟨gb1, 0, none⟩ = some (.int .i64 a0_0) ∧ w'.cell? ⟨gb1, 1, none⟩ = some (.int .u32 a0_1) ∧ w'.cell? ⟨gb1, 2, none⟩ = some (.slice A0_2 l0_2.length c0_2) ∧ w'.cell? ⟨gb1, 3, none⟩ = some (.slice A0_3 l0_3.length c0_3)) (ds := []) #[false, false, false, false, false, false, false, false, false, false, false, false, false, false, false, false] (by kernel_rfl) rfl rfl (bk8 BK19 (bl4 BK1)) (fun hHeld => ?_); refine with_tabW q17z.tab19 q17z.bits19 (fun HT_ HW_ => ?_)
            generalize w132.drew = w133 at BK5 HO11 HO14 BK1 BK2 BK19 HB hHeld ⊢
            refine pure_ (i := 0) (N := some 81) (v := ?_) (a' := ?_) #[true, false, false, false, false, false, false, false, false, false, false, false, false, false, false, false] rfl rfl (any_of HT_.out (by kernel_rfl)) (fun _ _ _ h => h) (Or.inl ⟨by rfl, ?_⟩) ?_ ?_
            rotate_left
            ·
             intro w'
             go_simp
             with_reducible rfl
            rotate_left
            ·
             simp only [Act.put, List.setIfInBounds_toArray, List.set_cons_zero, List.set_cons_succ, i64_w, i32_w, IntKind.wrap_u32]
             rfl
            refine pure_ (i := 1) (N := some 82) (v := ?_) (a' := ?_) #[true, true, false, false, false, false, false, false, false, false, false, false, false, false, false, false] rfl rfl (any_of HT_.out (by kernel_rfl)) (fun _ _ _ h => h) (Or.inl ⟨by rfl, ?_⟩) ?_ ?_
            rotate_left
            ·
             intro w'
             go_simp
             with_reducible rfl
            rotate_left
            ·
             simp only [Act.put, List.setIfInBounds_toArray, List.set_cons_zero, List.set_cons_succ, i64_w, i32_w, IntKind.wrap_u32]
             rfl
            refine pure_ (i := 4) (N := some 85) (v := ?_) (a' := ?_) #[true, true, false, false, true, false, false, false, false, false, false, false, false, false, false, false] rfl rfl (any_of HT_.out (by kernel_rfl)) (fun _ _ _ h => h) (Or.inl ⟨by rfl, ?_⟩) ?_ ?_
            rotate_left
            ·
             intro w'
             go_simp
             with_reducible rfl
            rotate_left
            ·
             simp only [Act.put, List.setIfInBounds_toArray, List.set_cons_zero, List.set_cons_succ, i64_w, i32_w, IntKind.wrap_u32]
             rfl
            refine pure_ (i := 5) (N := some 86) (v := ?_) (a' := ?_) #[true, true, false, false, true, true, false, false, false, false, false, false, false, false, false, false] rfl rfl (any_of HT_.out (by kernel_rfl)) (fun _ _ _ h => h) (Or.inl ⟨by rfl, ?_⟩) ?_ ?_
            rotate_left
            ·
             intro w'
             go_simp
             with_reducible rfl
            rotate_left
            ·
             simp only [Act.put, List.setIfInBounds_toArray, List.set_cons_zero, List.set_cons_succ, i64_w, i32_w, IntKind.wrap_u32]
             rfl
            refine take_ (i := 2) (N := some 83) (v := ?_) (a' := ?_) #[true, true, true, false, true, true, false, false, false, false, false, false, false, false, false, false] rfl rfl (take_ofW HT_.out HW_.out (by kernel_rfl)) (fun _ _ _ h => h) (Or.inl ⟨by rfl, ?_⟩) hHeld ?_ ?_
            rotate_left
            ·
             rintro w' ⟨s0, s1, s2, s3, s4, s5, s6, s7, s8, s9, s10, s11⟩
             go_simp
             with_reducible rfl
            rotate_left
            ·
             simp only [Act.put, List.setIfInBounds_toArray, List.set_cons_zero, List.set_cons_succ, i64_w, i32_w, IntKind.wrap_u32]
             rfl
            refine take_ (i := 6) (N := some 87) (v := ?_) (a' := ?_) #[true, true, true, false, true, true, true, false, false, false, false, false, false, false, false, false] rfl rfl (take_ofW HT_.out HW_.out (by kernel_rfl)) (fun _ _ _ h => h) (Or.inl ⟨by rfl, ?_⟩) hHeld ?_ ?_
            rotate_left
            ·
             rintro w' ⟨s0, s1, s2, s3, s4, s5, s6, s7, s8, s9, s10, s11⟩
             go_simp
             with_reducible rfl
            rotate_left
            ·
             simp only [Act.put, List.setIfInBounds_toArray, List.set_cons_zero, List.set_cons_succ, i64_w, i32_w, IntKind.wrap_u32]
             rfl
            refine one_ (i := 3) (N := some 84) #[true, true, true, true, true, true, true, false, false, false, false, false, false, false, false, false] rfl rfl (one_of HT_.out (by kernel_rfl)) (by decide) (fun K hK => ?_)
            refine goesC_ #[.pointer (some ⟨gb5, 0, none⟩)] Try.func19 (by kernel_rfl) rfl #[.slice Ao130 t12.length co130, .pointer (some ⟨gb5, 0, none⟩)] (by rfl) rfl rfl (by rfl) (by simp only [List.map_toArray, List.map_cons, List.map_nil, List.append_toArray, List.cons_append, List.nil_append]; rfl) ?_
            with_reducible refine (acts_has.calls gb5 _ _ t12 a2 t30 _ (bkW BK5) ?side1 ?side2 A118.out).mono ?_
            (case side1 => repeat (first | exact (Kd.R_reads' HO14.out).2.2 | (with_reducible refine Kd.C_alloc ?_ _) | (with_reducible refine Kd.C_drewN ?_ _) | (with_reducible refine Kd.C_drew ?_)))
            (case side2 => exact (Kd.R_reads' HO14.out).2.1)
            rintro e w134 ⟨rfl, hb⟩
            refine ⟨_, rfl, ?_⟩
            replace HO11 := Aside0.mk (Kd.R_below (rW HO11) hb)
            replace HO14 := Aside0.mk (Kd.R_below (rW HO14) hb)
            replace BK1 := bkB BK1 hb; replace BK5 := bkB BK5 hb
            replace BK2 := bkB BK2 hb
            replace BK19 := bkB BK19 hb
            replace HB := hbS HB hb
            (try clear hb)
            refine hK.out _ _ (bk8 BK19 (bl4 BK1)) (fun hHeld => ?_)
            clear hK K
            refine norm_ (a' := ?_) ?_ ?_
            rotate_left
            ·
             show Act.put _ (some 84) _ = _
             simp only [Act.put, List.setIfInBounds_toArray, List.set_cons_zero, List.set_cons_succ, i64_w, i32_w, IntKind.wrap_u32]
             rfl
            refine one_ (i := 7) (N := some 88) #[true, true, true, true, true, true, true, true, false, false, false, false, false, false, false, false] rfl rfl (one_of HT_.out (by kernel_rfl)) (by decide) (fun K hK => ?_)
            refine goesC_ #[.pointer (some ⟨gb5, 0, none⟩)] Try.func19 (by kernel_rfl) rfl #[.slice A0_2 l0_2.length c0_2, .pointer (some ⟨gb5, 0, none⟩)] (by rfl) rfl rfl (by rfl) (by simp only [List.map_toArray, List.map_cons, List.map_nil, List.append_toArray, List.cons_append, List.nil_append]; rfl) ?_
            with_reducible refine (acts_has.calls gb5 _ _ l0_2 a2 true _ (bkW BK5) ?side1 ?side2 A119.out).mono ?_
            (case side1 => repeat (first | exact (Kd.C_below HR0_2.out HB.out) | (with_reducible refine Kd.C_alloc ?_ _) | (with_reducible refine Kd.C_drewN ?_ _) | (with_reducible refine Kd.C_drew ?_)))
            (case side2 => exact HC0_2.out)
            rintro e w135 ⟨rfl, hb⟩
            refine ⟨_, rfl, ?_⟩
            replace HO11 := Aside0.mk (Kd.R_below (rW HO11) hb)
            replace HO14 := Aside0.mk (Kd.R_below (rW HO14) hb)
            replace BK1 := bkB BK1 hb; replace BK5 := bkB BK5 hb
            replace BK2 := bkB BK2 hb
            replace BK19 := bkB BK19 hb
            replace HB := hbS HB hb
            (try clear hb)
            refine hK.out _ _ (bk8 BK19 (bl4 BK1)) (fun hHeld => ?_)
            clear hK K
            refine norm_ (a' := ?_) ?_ ?_
            rotate_left
            ·
             show Act.put _ (some 88) _ = _
             simp only [Act.put, List.setIfInBounds_toArray, List.set_cons_zero, List.set_cons_succ, i64_w, i32_w, IntKind.wrap_u32]
             rfl
            refine pure_ (i := 8) (N := some 89) (v := ?_) (a' := ?_) #[true, true, true, true, true, true, true, true, true, false, false, false, false, false, false, false] rfl rfl (any_of HT_.out (by kernel_rfl)) (fun _ _ _ h => h) (Or.inl ⟨by rfl, ?_⟩) ?_ ?_
            rotate_left
            ·
             intro w'
             go_simp
             with_reducible rfl
            rotate_left
            ·
             simp only [Act.put, List.setIfInBounds_toArray, List.set_cons_zero, List.set_cons_succ, i64_w, i32_w, IntKind.wrap_u32]
             rfl
            refine pure_ (i := 9) (N := some 90) (v := undef) (a' := ?_) #[true, true, true, true, true, true, true, true, true, true, false, false, false, false, false, false] rfl rfl (any_of HT_.out (by kernel_rfl)) (fun _ _ _ h => h) (Or.inr ⟨by rfl, rfl⟩) ?_ ?_
            rotate_left
            ·
             simp only [Act.put, List.setIfInBounds_toArray, List.set_cons_zero, List.set_cons_succ, i64_w, i32_w, IntKind.wrap_u32]
             rfl
            refine pure_ (i := 10) (N := some 91) (v := undef) (a' := ?_) #[true, true, true, true, true, true, true, true, true, true, true, false, false, false, false, false] rfl rfl (any_of HT_.out (by kernel_rfl)) (fun _ _ _ h => h) (Or.inr ⟨by rfl, rfl⟩) ?_ ?_
            rotate_left
            ·
             simp only [Act.put, List.setIfInBounds_toArray, List.set_cons_zero, List.set_cons_succ, i64_w, i32_w, IntKind.wrap_u32]
             rfl
            refine pure_ (i := 11) (N := some 92) (v := undef) (a' := ?_) #[true, true, true, true, true, true, true, true, true, true, true, true, false, false, false, false] rfl rfl (any_of HT_.out (by kernel_rfl)) (fun _ _ _ h => h) (Or.inr ⟨by rfl, rfl⟩) ?_ ?_
            rotate_left
            ·
             simp only [Act.put, List.setIfInBounds_toArray, List.set_cons_zero, List.set_cons_succ, i64_w, i32_w, IntKind.wrap_u32]
             rfl
            refine pure_ (i := 12) (N := some 93) (v := undef) (a' := ?_) #[true, true, true, true, true, true, true, true, true, true, true, true, true, false, false, false] rfl rfl (any_of HT_.out (by kernel_rfl)) (fun _ _ _ h => h) (Or.inr ⟨by rfl, rfl⟩) ?_ ?_
            rotate_left
            ·
             simp only [Act.put, List.setIfInBounds_toArray, List.set_cons_zero, List.set_cons_succ, i64_w, i32_w, IntKind.wrap_u32]
             rfl
            refine pure_ (i := 13) (N := some 94) (v := ?_) (a' := ?_) #[true, true, true, true, true, true, true, true, true, true, true, true, true, true, false, false] rfl rfl (any_of HT_.out (by kernel_rfl)) (fun _ _ _ h => h) (Or.inl ⟨by rfl, ?_⟩) ?_ ?_
            rotate_left
            ·
             intro w'
             go_simp
             with_reducible rfl
            rotate_left
            ·
             simp only [Act.put, List.setIfInBounds_toArray, List.set_cons_zero, List.set_cons_succ, i64_w, i32_w, IntKind.wrap_u32]
             rfl
            refine pure_ (i := 14) (N := some 95) (v := ?_) (a' := ?_) #[true, true, true, true, true, true, true, true, true, true, true, true, true, true, true, false] rfl rfl (any_of HT_.out (by kernel_rfl)) (fun _ _ _ h => h) (Or.inl ⟨by rfl, ?_⟩) ?_ ?_
            rotate_left
            ·
             intro w'
             go_simp
             with_reducible rfl
            rotate_left
            ·
             simp only [Act.put, List.setIfInBounds_toArray, List.set_cons_zero, List.set_cons_succ, i64_w, i32_w, IntKind.wrap_u32]
             rfl
            refine pure_ (i := 15) (N := some 6) (v := ?_) (a' := ?_) #[true, true, true, true, true, true, true, true, true, true, true, true, true, true, true, true] rfl rfl (any_of HT_.out (by kernel_rfl)) (fun _ _ _ h => h) (Or.inl ⟨by rfl, ?_⟩) ?_ ?_
            rotate_left
            ·
             intro w'
             go_simp
             with_reducible rfl
            rotate_left
            ·
             simp only [Act.put, List.setIfInBounds_toArray, List.set_cons_zero, List.set_cons_succ, i64_w, i32_w, IntKind.wrap_u32]
             rfl
            refine done_ (done_of HT_.out (by kernel_rfl)) ?_
            try go_wp2
            go_ret
            exact ⟨by first | rfl | (simp [errW_none, errW_some] <;> rfl) | (simp [*, errW_none, errW_some] <;> rfl), hbW HB⟩
           ·
            replace c120 := Bool.eq_false_iff.mpr c120
            subst c120
            have H1 : ((acts_has.f l1_3 a2).bind fun t32 => (some (t30 == t32))) = some r := by rw [if_neg (show ¬ (false = true) by decide)] at H; exact H
            clear H
            have H := H1
            clear H1
            replace H := Option.bind_eq_some_iff.mp H
            obtain ⟨t32, A1360, H⟩ := H
            replace H : (some (t30 == t32)) = some r := H
            have A136 := Aside0.mk A1360
            clear A1360
            obtain rfl := Option.some.inj H
            have hnb137 := NB1_2.out
            have hnc137 := NB2_1.out
            obtain ⟨hcz138_0, hcz138_1, hcz138_2, hcz138_3, hfz138_0, hfz138_1, hfz138_2, hfz138_3⟩ := bc4 BK1
            obtain ⟨hcz139_0, hcz139_1, hcz139_2, hcz139_3, hcz139_4, hcz139_5, hcz139_6, hcz139_7, hfz139_0, hfz139_1, hfz139_2, hfz139_3, hfz139_4, hfz139_5, hfz139_6, hfz139_7⟩ := bc8 BK2
            try go_wp2_with (first | ((with_reducible refine gate_callee (f := 13) rfl ?_); refine goesL_ (some 24) rfl rfl Try.func13 (by kernel_rfl) rfl #[.agg #[.int .i64 a0_0, .int .u32 a0_1, .slice A0_2 l0_2.length c0_2, .slice A0_3 l0_3.length c0_3], .agg #[.int .u32 a1_0, .int .i64 a1_1, .slice A1_2 l1_2.length c1_2, .slice A1_3 l1_3.length c1_3, .int .u32 a1_4, .int .u32 a1_5, .int .i64 a1_6, .int .u32 a1_7]] rfl (by (try simp only [List.map_toArray, List.map_cons, List.map_nil]); first | done | rfl | (simp only [List.length_drop, List.length_take]; rfl)) ?_; (with_reducible refine (q8z.calls kj5 a0_0 a0_1 (fun k_ => k_ < w.heap.size) _ _ l0_2 _ _ l0_3 a1_0 a1_1 _ _ l1_2 _ _ l1_3 a1_4 a1_5 a1_6 a1_7 t7 t8 t9 t12 t15 t16 t17 t18 _ ?side1 ?side2 ?side3 ?side4 ?side5 ?side6 ?side7 A31.out).mono ?_); (case side1 => exact Kd.V_mk HC0_2.out (Kd.F_below (Kd.C_F (Kd.heap_int .u32) HR0_2.out) (hbW HB))); (case side2 => repeat (first | exact (Kd.C_below HR0_3.out HB.out) | (with_reducible refine Kd.C_alloc ?_ _) | (with_reducible refine Kd.C_drewN ?_ _) | (with_reducible refine Kd.C_drew ?_))); (case side3 => exact HC0_3.out); (case side4 => repeat (first | exact (Kd.C_below HR1_2.out HB.out) | (with_reducible refine Kd.C_alloc ?_ _) | (with_reducible refine Kd.C_drewN ?_ _) | (with_reducible refine Kd.C_drew ?_))); (case side5 => exact HC1_2.out); (case side6 => repeat (first | exact (Kd.C_below HR1_3.out HB.out) | (with_reducible refine Kd.C_alloc ?_ _) | (with_reducible refine Kd.C_drewN ?_ _) | (with_reducible refine Kd.C_drew ?_))); (case side7 => exact HC1_3.out); rintro e w140 ⟨v10, v13, rfl, ho0, ho1, hb⟩; refine ⟨_, rfl, ?_⟩; have HO11 := Aside0.mk (Kd.R_lower (Kd.R_mono (ok' := fun k_ => some k_ ≠ (v13 : Value).ownBlock) ho0 (fun _ hk_ => hk_.2)) (below_size (hbW HB))); have HO14 := Aside0.mk (Kd.R_lower (Kd.R_mono (ok' := fun k_ => some k_ ≠ (v10 : Value).ownBlock) ho1 (fun _ hk_ => hk_.2)) (below_size (hbW HB))); replace BK1 := bkB BK1 hb; replace BK5 := bkB BK5 hb; replace BK2 := bkB BK2 hb; replace HB := hbS HB hb; (try clear hb); (try clear ho0); (try clear ho1)) | ((with_reducible refine gate_dst (N := 7) rfl ?_); (try (refine gate_guard (by rfl) ?_; dsimp only)); refine box_event ?hg (N := 7) ?hd (cs := #[.int .u32 0, .int .i64 0, .slice none 0 0, .slice none 0 0, .int .u32 0, .int .u32 0, .int .i64 0, .int .u32 0]) (t := 30) ?hr ?_; (case hd => rfl); (case hg => rfl); (case hr => first | (go_simp; done) | (go_simp; rfl)); intro gb19 hg w141 hbox hb; have BK19 := Aside0.mk (hbox); have GW19 := gwS hg HB; have GE19 := gwS hg HB; have NB1_19 := nbL hg BK1; have NB19_1 := nbG hg BK1; have NB5_19 := nbL hg BK5; have NB19_5 := nbG hg BK5; have NB2_19 := nbL hg BK2; have NB19_2 := nbG hg BK2; replace HO11 := Aside0.mk (Kd.R_below (rW HO11) hb); replace HO14 := Aside0.mk (Kd.R_below (rW HO14) hb); replace BK1 := bkB BK1 hb; replace BK5 := bkB BK5 hb; replace BK2 := bkB BK2 hb; replace HB := hbS HB hb; clear hb hbox hg; have hnb142 := NB19_1.out; have hnc142 := NB1_19.out; have hnb143 := NB19_2.out; have hnc143 := NB2_19.out; obtain ⟨hcz144_0, hcz144_1, hcz144_2, hcz144_3, hcz144_4, hcz144_5, hcz144_6, hcz144_7, hfz144_0, hfz144_1, hfz144_2, hfz144_3, hfz144_4, hfz144_5, hfz144_6, hfz144_7⟩ := bc8 BK19; obtain ⟨Ao145, co145, eo145⟩ := Kd.R_slice HO11.out; subst eo145; obtain ⟨Ao146, co146, eo146⟩ := Kd.R_slice HO14.out; subst eo146; obtain ⟨hcz147_0, hcz147_1, hcz147_2, hcz147_3, hfz147_0, hfz147_1, hfz147_2, hfz147_3⟩ := bc4 BK1))
            have n0_ : Aside0 (Kd.R (Kd.int .u32) 22 ((((((((w141.setCell ⟨gb19, 0, none⟩ (.int .u32 t7)).setCell ⟨gb19, 1, none⟩ (.int .i64 t8)).setCell ⟨gb19, 2, none⟩ (.slice Ao145 t9.length co145)).setCell ⟨gb19, 3, none⟩ (.slice Ao146 t12.length co146)).setCell ⟨gb19, 4, none⟩ (.int .u32 t15)).setCell ⟨gb19, 5, none⟩ (.int .u32 t16)).setCell ⟨gb19, 6, none⟩ (.int .i64 t17)).setCell ⟨gb19, 7, none⟩ (.int .u32 t18)) w.heap.size (fun k_ => some k_ ≠ (.slice Ao146 t12.length co146 : Value).ownBlock) (.slice Ao145 t9.length co145) t9) := ⟨moR (rW HO11)⟩
            have n1_ : Aside0 (Kd.R (Kd.int .u32) 22 ((((((((w141.setCell ⟨gb19, 0, none⟩ (.int .u32 t7)).setCell ⟨gb19, 1, none⟩ (.int .i64 t8)).setCell ⟨gb19, 2, none⟩ (.slice Ao145 t9.length co145)).setCell ⟨gb19, 3, none⟩ (.slice Ao146 t12.length co146)).setCell ⟨gb19, 4, none⟩ (.int .u32 t15)).setCell ⟨gb19, 5, none⟩ (.int .u32 t16)).setCell ⟨gb19, 6, none⟩ (.int .i64 t17)).setCell ⟨gb19, 7, none⟩ (.int .u32 t18)) w.heap.size (fun k_ => some k_ ≠ (.slice Ao145 t9.length co145 : Value).ownBlock) (.slice Ao146 t12.length co146) t12) := ⟨moR (rW HO14)⟩
            have n2_ : Aside0 (((((((((w141.setCell ⟨gb19, 0, none⟩ (.int .u32 t7)).setCell ⟨gb19, 1, none⟩ (.int .i64 t8)).setCell ⟨gb19, 2, none⟩ (.slice Ao145 t9.length co145)).setCell ⟨gb19, 3, none⟩ (.slice Ao146 t12.length co146)).setCell ⟨gb19, 4, none⟩ (.int .u32 t15)).setCell ⟨gb19, 5, none⟩ (.int .u32 t16)).setCell ⟨gb19, 6, none⟩ (.int .i64 t17)).setCell ⟨gb19, 7, none⟩ (.int .u32 t18)).heap[gb1]? = some (.cells #[.int .i64 a0_0, .int .u32 a0_1, .slice A0_2 l0_2.length c0_2, .slice A0_3 l0_3.length c0_3] 26 (0, 0))) := ⟨by (with_reducible repeat (first | refine blk_drewN ?_ _ | refine blk_drew ?_ | refine blk_alloc ?_ _)); refine blk_far ?_ NB1_19.out _; (with_reducible repeat (first | refine blk_drewN ?_ _ | refine blk_drew ?_ | refine blk_alloc ?_ _)); refine blk_far ?_ NB1_19.out _; (with_reducible repeat (first | refine blk_drewN ?_ _ | refine blk_drew ?_ | refine blk_alloc ?_ _)); refine blk_far ?_ NB1_19.out _; (with_reducible repeat (first | refine blk_drewN ?_ _ | refine blk_drew ?_ | refine blk_alloc ?_ _)); refine blk_far ?_ NB1_19.out _; (with_reducible repeat (first | refine blk_drewN ?_ _ | refine blk_drew ?_ | refine blk_alloc ?_ _)); refine blk_far ?_ NB1_19.out _; (with_reducible repeat (first | refine blk_drewN ?_ _ | refine blk_drew ?_ | refine blk_alloc ?_ _)); refine blk_far ?_ NB1_19.out _; (with_reducible repeat (first | refine blk_drewN ?_ _ | refine blk_drew ?_ | refine blk_alloc ?_ _)); refine blk_far ?_ NB1_19.out _; (with_reducible repeat (first | refine blk_drewN ?_ _ | refine blk_drew ?_ | refine blk_alloc ?_ _)); refine blk_far ?_ NB1_19.out _; (with_reducible repeat (first | refine blk_drewN ?_ _ | refine blk_drew ?_ | refine blk_alloc ?_ _)); exact BK1.out⟩
            have n99_ : Aside0 (((((((((w141.setCell ⟨gb19, 0, none⟩ (.int .u32 t7)).setCell ⟨gb19, 1, none⟩ (.int .i64 t8)).setCell ⟨gb19, 2, none⟩ (.slice Ao145 t9.length co145)).setCell ⟨gb19, 3, none⟩ (.slice Ao146 t12.length co146)).setCell ⟨gb19, 4, none⟩ (.int .u32 t15)).setCell ⟨gb19, 5, none⟩ (.int .u32 t16)).setCell ⟨gb19, 6, none⟩ (.int .i64 t17)).setCell ⟨gb19, 7, none⟩ (.int .u32 t18)).heap[gb5]? = some (.cells #[.int .u32 a2] 22 (0, 0))) := ⟨bkV BK5⟩
            have n3_ : Aside0 (((((((((w141.setCell ⟨gb19, 0, none⟩ (.int .u32 t7)).setCell ⟨gb19, 1, none⟩ (.int .i64 t8)).setCell ⟨gb19, 2, none⟩ (.slice Ao145 t9.length co145)).setCell ⟨gb19, 3, none⟩ (.slice Ao146 t12.length co146)).setCell ⟨gb19, 4, none⟩ (.int .u32 t15)).setCell ⟨gb19, 5, none⟩ (.int .u32 t16)).setCell ⟨gb19, 6, none⟩ (.int .i64 t17)).setCell ⟨gb19, 7, none⟩ (.int .u32 t18)).heap[gb2]? = some (.cells #[.int .u32 a1_0, .int .i64 a1_1, .slice A1_2 l1_2.length c1_2, .slice A1_3 l1_3.length c1_3, .int .u32 a1_4, .int .u32 a1_5, .int .i64 a1_6, .int .u32 a1_7] 30 (0, 0))) := ⟨by (with_reducible repeat (first | refine blk_drewN ?_ _ | refine blk_drew ?_ | refine blk_alloc ?_ _)); refine blk_far ?_ NB2_19.out _; (with_reducible repeat (first | refine blk_drewN ?_ _ | refine blk_drew ?_ | refine blk_alloc ?_ _)); refine blk_far ?_ NB2_19.out _; (with_reducible repeat (first | refine blk_drewN ?_ _ | refine blk_drew ?_ | refine blk_alloc ?_ _)); refine blk_far ?_ NB2_19.out _; (with_reducible repeat (first | refine blk_drewN ?_ _ | refine blk_drew ?_ | refine blk_alloc ?_ _)); refine blk_far ?_ NB2_19.out _; (with_reducible repeat (first | refine blk_drewN ?_ _ | refine blk_drew ?_ | refine blk_alloc ?_ _)); refine blk_far ?_ NB2_19.out _; (with_reducible repeat (first | refine blk_drewN ?_ _ | refine blk_drew ?_ | refine blk_alloc ?_ _)); refine blk_far ?_ NB2_19.out _; (with_reducible repeat (first | refine blk_drewN ?_ _ | refine blk_drew ?_ | refine blk_alloc ?_ _)); refine blk_far ?_ NB2_19.out _; (with_reducible repeat (first | refine blk_drewN ?_ _ | refine blk_drew ?_ | refine blk_alloc ?_ _)); refine blk_far ?_ NB2_19.out _; (with_reducible repeat (first | refine blk_drewN ?_ _ | refine blk_drew ?_ | refine blk_alloc ?_ _)); exact BK2.out⟩
            have n4_ : Aside0 (((((((((w141.setCell ⟨gb19, 0, none⟩ (.int .u32 t7)).setCell ⟨gb19, 1, none⟩ (.int .i64 t8)).setCell ⟨gb19, 2, none⟩ (.slice Ao145 t9.length co145)).setCell ⟨gb19, 3, none⟩ (.slice Ao146 t12.length co146)).setCell ⟨gb19, 4, none⟩ (.int .u32 t15)).setCell ⟨gb19, 5, none⟩ (.int .u32 t16)).setCell ⟨gb19, 6, none⟩ (.int .i64 t17)).setCell ⟨gb19, 7, none⟩ (.int .u32 t18)).heap[gb19]? = some (.cells #[.int .u32 t7, .int .i64 t8, .slice Ao145 t9.length co145, .slice Ao146 t12.length co146, .int .u32 t15, .int .u32 t16, .int .i64 t17, .int .u32 t18] 30 (0, 0))) := ⟨by (with_reducible repeat (first | refine blk_drewN ?_ _ | refine blk_drew ?_ | refine blk_alloc ?_ _)); refine blk_put (cs := #[.int .u32 t7, .int .i64 t8, .slice Ao145 t9.length co145, .slice Ao146 t12.length co146, .int .u32 t15, .int .u32 t16, .int .i64 t17, .int .u32 0]) ?_ 7 _ rfl; (with_reducible repeat (first | refine blk_drewN ?_ _ | refine blk_drew ?_ | refine blk_alloc ?_ _)); refine blk_put (cs := #[.int .u32 t7, .int .i64 t8, .slice Ao145 t9.length co145, .slice Ao146 t12.length co146, .int .u32 t15, .int .u32 t16, .int .i64 0, .int .u32 0]) ?_ 6 _ rfl; (with_reducible repeat (first | refine blk_drewN ?_ _ | refine blk_drew ?_ | refine blk_alloc ?_ _)); refine blk_put (cs := #[.int .u32 t7, .int .i64 t8, .slice Ao145 t9.length co145, .slice Ao146 t12.length co146, .int .u32 t15, .int .u32 0, .int .i64 0, .int .u32 0]) ?_ 5 _ rfl; (with_reducible repeat (first | refine blk_drewN ?_ _ | refine blk_drew ?_ | refine blk_alloc ?_ _)); refine blk_put (cs := #[.int .u32 t7, .int .i64 t8, .slice Ao145 t9.length co145, .slice Ao146 t12.length co146, .int .u32 0, .int .u32 0, .int .i64 0, .int .u32 0]) ?_ 4 _ rfl; (with_reducible repeat (first | refine blk_drewN ?_ _ | refine blk_drew ?_ | refine blk_alloc ?_ _)); refine blk_put (cs := #[.int .u32 t7, .int .i64 t8, .slice Ao145 t9.length co145, .slice none 0 0, .int .u32 0, .int .u32 0, .int .i64 0, .int .u32 0]) ?_ 3 _ rfl; (with_reducible repeat (first | refine blk_drewN ?_ _ | refine blk_drew ?_ | refine blk_alloc ?_ _)); refine blk_put (cs := #[.int .u32 t7, .int .i64 t8, .slice none 0 0, .slice none 0 0, .int .u32 0, .int .u32 0, .int .i64 0, .int .u32 0]) ?_ 2 _ rfl; (with_reducible repeat (first | refine blk_drewN ?_ _ | refine blk_drew ?_ | refine blk_alloc ?_ _)); refine blk_put (cs := #[.int .u32 t7, .int .i64 0, .slice none 0 0, .slice none 0 0, .int .u32 0, .int .u32 0, .int .i64 0, .int .u32 0]) ?_ 1 _ rfl; (with_reducible repeat (first | refine blk_drewN ?_ _ | refine blk_drew ?_ | refine blk_alloc ?_ _)); refine blk_put (cs := #[.int .u32 0, .int .i64 0, .slice none 0 0, .slice none 0 0, .int .u32 0, .int .u32 0, .int .i64 0, .int .u32 0]) ?_ 0 _ rfl; (with_reducible repeat (first | refine blk_drewN ?_ _ | refine blk_drew ?_ | refine blk_alloc ?_ _)); exact BK19.out⟩
            have n5_ : Aside0 (Below w.heap.size w ((((((((w141.setCell ⟨gb19, 0, none⟩ (.int .u32 t7)).setCell ⟨gb19, 1, none⟩ (.int .i64 t8)).setCell ⟨gb19, 2, none⟩ (.slice Ao145 t9.length co145)).setCell ⟨gb19, 3, none⟩ (.slice Ao146 t12.length co146)).setCell ⟨gb19, 4, none⟩ (.int .u32 t15)).setCell ⟨gb19, 5, none⟩ (.int .u32 t16)).setCell ⟨gb19, 6, none⟩ (.int .i64 t17)).setCell ⟨gb19, 7, none⟩ (.int .u32 t18))) := ⟨hbW HB⟩
            (try clear HO11)
            (try clear HO14)
            (try clear BK1)
            (try clear BK5)
            (try clear BK2)
            (try clear BK19)
            (try clear HB)
            generalize ((((((((w141.setCell ⟨gb19, 0, none⟩ (.int .u32 t7)).setCell ⟨gb19, 1, none⟩ (.int .i64 t8)).setCell ⟨gb19, 2, none⟩ (.slice Ao145 t9.length co145)).setCell ⟨gb19, 3, none⟩ (.slice Ao146 t12.length co146)).setCell ⟨gb19, 4, none⟩ (.int .u32 t15)).setCell ⟨gb19, 5, none⟩ (.int .u32 t16)).setCell ⟨gb19, 6, none⟩ (.int .i64 t17)).setCell ⟨gb19, 7, none⟩ (.int .u32 t18)) = w148 at n99_ n0_ n1_ n2_ n3_ n4_ n5_ ⊢
            have HO11 := n0_
            have HO14 := n1_
            have BK1 := n2_
            have BK5 := n99_
            have BK2 := n3_
            have BK19 := n4_
            have HB := n5_
            clear n0_ n1_ n2_ n3_ n4_ n5_ n99_
            replace HO11 := Aside0.mk (Kd.R_drew HO11.out)
            replace HO14 := Aside0.mk (Kd.R_drew HO14.out)
            replace BK1 := Aside0.mk (blk_drew BK1.out); replace BK5 := Aside0.mk (blk_drew BK5.out)
            replace BK2 := Aside0.mk (blk_drew BK2.out)
            replace BK19 := Aside0.mk (blk_drew BK19.out)
            replace HB := Aside0.mk (below_drew1 HB.out)
            refine start_ (n := 16) (S := fun w' => w'.cell? ⟨gb19, 0, none⟩ = some (.int .u32 t7) ∧ w'.cell? ⟨gb19, 1, none⟩ = some (.int .i64 t8) ∧ w'.cell? ⟨gb19, 2, none⟩ = some (.slice Ao145 t9.length co145) ∧ w'.cell? ⟨gb19, 3, none⟩ = some (.slice Ao146 t12.length co146) ∧ w'.cell? ⟨gb19, 4, none⟩ = some (.int .u32 t15) ∧ w'.cell? ⟨gb19, 5, none⟩ = some (.int .u32 t16) ∧ w'.cell? ⟨gb19, 6, none⟩ = some (.int .i64 t17) ∧ w'.cell? ⟨gb19, 7, none⟩ = some (.int .u32 t18) ∧ w'.cell? ⟨gb1, 0, none⟩ = some (.int .i64 a0_0) ∧ w'.cell? ⟨gb1, 1, none⟩ = some (.int .u32 a0_1) ∧ w'.cell? ⟨gb1, 2, none⟩ = some (.slice A0_2 l0_2.length c0_2) ∧ w'.cell? ⟨gb1, 3, none⟩ = some (.slice A0_3 l0_3.length c0_3) ∧ w'.cell? ⟨gb2, 0, none⟩ = some (.int .u32 a1_0) ∧ w'.cell? ⟨gb2, 1, none⟩ = some (.int .i64 a1_1) ∧ w'.cell? ⟨gb2, 2, none⟩ = some (.slice A1_2 l1_2.length c1_2) ∧ w'.cell? ⟨gb2, 3, none⟩ = some (.slice A1_3 l1_3.length c1_3) ∧ w'.cell? ⟨gb2, 4, none⟩ = some (.int .u32 a1_4) ∧ w'.cell? ⟨gb2, 5, none⟩ = some (.int .u32 a1_5) ∧ w'.cell? ⟨gb2, 6, none⟩ = some (.int .i64 a1_6) ∧ w'.cell? ⟨gb2, 7, none⟩ = some (.int .u32 a1_7)) (ds := []) #[false, false, false, false, false, false, false, false, false, false, false, false, false, false, false, false] (by kernel_rfl) rfl rfl (bk8 BK19 (bk4 BK1 (bl8 BK2))) (fun hHeld => ?_); refine with_tabW q17z.tab19 q17z.bits19 (fun HT_ HW_ => ?_)
            generalize w148.drew = w149 at BK5 HO11 HO14 BK1 BK2 BK19 HB hHeld ⊢
            refine pure_ (i := 0) (N := some 81) (v := ?_) (a' := ?_) #[true, false, false, false, false, false, false, false, false, false, false, false, false, false, false, false] rfl rfl (any_of HT_.out (by kernel_rfl)) (fun _ _ _ h => h) (Or.inl ⟨by rfl, ?_⟩) ?_ ?_
            rotate_left
            ·
             intro w'
             go_simp
             with_reducible rfl
            rotate_left
            ·
             simp only [Act.put, List.setIfInBounds_toArray, List.set_cons_zero, List.set_cons_succ, i64_w, i32_w, IntKind.wrap_u32]
             rfl
            refine pure_ (i := 1) (N := some 82) (v := ?_) (a' := ?_) #[true, true, false, false, false, false, false, false, false, false, false, false, false, false, false, false] rfl rfl (any_of HT_.out (by kernel_rfl)) (fun _ _ _ h => h) (Or.inl ⟨by rfl, ?_⟩) ?_ ?_
            rotate_left
            ·
             intro w'
             go_simp
             with_reducible rfl
            rotate_left
            ·
             simp only [Act.put, List.setIfInBounds_toArray, List.set_cons_zero, List.set_cons_succ, i64_w, i32_w, IntKind.wrap_u32]
             rfl
            refine pure_ (i := 4) (N := some 85) (v := ?_) (a' := ?_) #[true, true, false, false, true, false, false, false, false, false, false, false, false, false, false, false] rfl rfl (any_of HT_.out (by kernel_rfl)) (fun _ _ _ h => h) (Or.inl ⟨by rfl, ?_⟩) ?_ ?_
            rotate_left
            ·
             intro w'
             go_simp
             with_reducible rfl
            rotate_left
            ·
             simp only [Act.put, List.setIfInBounds_toArray, List.set_cons_zero, List.set_cons_succ, i64_w, i32_w, IntKind.wrap_u32]
             rfl
            refine pure_ (i := 5) (N := some 86) (v := ?_) (a' := ?_) #[true, true, false, false, true, true, false, false, false, false, false, false, false, false, false, false] rfl rfl (any_of HT_.out (by kernel_rfl)) (fun _ _ _ h => h) (Or.inl ⟨by rfl, ?_⟩) ?_ ?_
            rotate_left
            ·
             intro w'
             go_simp
             with_reducible rfl
            rotate_left
            ·
             simp only [Act.put, List.setIfInBounds_toArray, List.set_cons_zero, List.set_cons_succ, i64_w, i32_w, IntKind.wrap_u32]
             rfl
            refine take_ (i := 2) (N := some 83) (v := ?_) (a' := ?_) #[true, true, true, false, true, true, false, false, false, false, false, false, false, false, false, false] rfl rfl (take_ofW HT_.out HW_.out (by kernel_rfl)) (fun _ _ _ h => h) (Or.inl ⟨by rfl, ?_⟩) hHeld ?_ ?_
            rotate_left
            ·
             rintro w' ⟨s0, s1, s2, s3, s4, s5, s6, s7, s8, s9, s10, s11, s12, s13, s14, s15, s16, s17, s18, s19⟩
             go_simp
             with_reducible rfl
            rotate_left
            ·
             simp only [Act.put, List.setIfInBounds_toArray, List.set_cons_zero, List.set_cons_succ, i64_w, i32_w, IntKind.wrap_u32]
             rfl
            refine take_ (i := 6) (N := some 87) (v := ?_) (a' := ?_) #[true, true, true, false, true, true, true, false, false, false, false, false, false, false, false, false] rfl rfl (take_ofW HT_.out HW_.out (by kernel_rfl)) (fun _ _ _ h => h) (Or.inl ⟨by rfl, ?_⟩) hHeld ?_ ?_
            rotate_left
            ·
             rintro w' ⟨s0, s1, s2, s3, s4, s5, s6, s7, s8, s9, s10, s11, s12, s13, s14, s15, s16, s17, s18, s19⟩
             go_simp
             with_reducible rfl
            rotate_left
            ·
             simp only [Act.put, List.setIfInBounds_toArray, List.set_cons_zero, List.set_cons_succ, i64_w, i32_w, IntKind.wrap_u32]
             rfl
            refine one_ (i := 3) (N := some 84) #[true, true, true, true, true, true, true, false, false, false, false, false, false, false, false, false] rfl rfl (one_of HT_.out (by kernel_rfl)) (by decide) (fun K hK => ?_)
            refine goesC_ #[.pointer (some ⟨gb5, 0, none⟩)] Try.func19 (by kernel_rfl) rfl #[.slice Ao146 t12.length co146, .pointer (some ⟨gb5, 0, none⟩)] (by rfl) rfl rfl (by rfl) (by simp only [List.map_toArray, List.map_cons, List.map_nil, List.append_toArray, List.cons_append, List.nil_append]; rfl) ?_
            with_reducible refine (acts_has.calls gb5 _ _ t12 a2 t30 _ (bkW BK5) ?side1 ?side2 A118.out).mono ?_
            (case side1 => repeat (first | exact (Kd.R_reads' HO14.out).2.2 | (with_reducible refine Kd.C_alloc ?_ _) | (with_reducible refine Kd.C_drewN ?_ _) | (with_reducible refine Kd.C_drew ?_)))
            (case side2 => exact (Kd.R_reads' HO14.out).2.1)
            rintro e w150 ⟨rfl, hb⟩
            refine ⟨_, rfl, ?_⟩
            replace HO11 := Aside0.mk (Kd.R_below (rW HO11) hb)
            replace HO14 := Aside0.mk (Kd.R_below (rW HO14) hb)
            replace BK1 := bkB BK1 hb; replace BK5 := bkB BK5 hb
            replace BK2 := bkB BK2 hb
            replace BK19 := bkB BK19 hb
            replace HB := hbS HB hb
            (try clear hb)
            refine hK.out _ _ (bk8 BK19 (bk4 BK1 (bl8 BK2))) (fun hHeld => ?_)
            clear hK K
            refine norm_ (a' := ?_) ?_ ?_
            rotate_left
            ·
             show Act.put _ (some 84) _ = _
             simp only [Act.put, List.setIfInBounds_toArray, List.set_cons_zero, List.set_cons_succ, i64_w, i32_w, IntKind.wrap_u32]
             rfl
            refine one_ (i := 7) (N := some 88) #[true, true, true, true, true, true, true, true, false, false, false, false, false, false, false, false] rfl rfl (one_of HT_.out (by kernel_rfl)) (by decide) (fun K hK => ?_)
            refine goesC_ #[.pointer (some ⟨gb5, 0, none⟩)] Try.func19 (by kernel_rfl) rfl #[.slice A0_2 l0_2.length c0_2, .pointer (some ⟨gb5, 0, none⟩)] (by rfl) rfl rfl (by rfl) (by simp only [List.map_toArray, List.map_cons, List.map_nil, List.append_toArray, List.cons_append, List.nil_append]; rfl) ?_
            with_reducible refine (acts_has.calls gb5 _ _ l0_2 a2 false _ (bkW BK5) ?side1 ?side2 A119.out).mono ?_
            (case side1 => repeat (first | exact (Kd.C_below HR0_2.out HB.out) | (with_reducible refine Kd.C_alloc ?_ _) | (with_reducible refine Kd.C_drewN ?_ _) | (with_reducible refine Kd.C_drew ?_)))
            (case side2 => exact HC0_2.out)
            rintro e w151 ⟨rfl, hb⟩
            refine ⟨_, rfl, ?_⟩
            replace HO11 := Aside0.mk (Kd.R_below (rW HO11) hb)
            replace HO14 := Aside0.mk (Kd.R_below (rW HO14) hb)
            replace BK1 := bkB BK1 hb; replace BK5 := bkB BK5 hb
            replace BK2 := bkB BK2 hb
            replace BK19 := bkB BK19 hb
            replace HB := hbS HB hb
            (try clear hb)
            refine hK.out _ _ (bk8 BK19 (bk4 BK1 (bl8 BK2))) (fun hHeld => ?_)
            clear hK K
            refine norm_ (a' := ?_) ?_ ?_
            rotate_left
            ·
             show Act.put _ (some 88) _ = _
             simp only [Act.put, List.setIfInBounds_toArray, List.set_cons_zero, List.set_cons_succ, i64_w, i32_w, IntKind.wrap_u32]
             rfl
            refine pure_ (i := 8) (N := some 89) (v := ?_) (a' := ?_) #[true, true, true, true, true, true, true, true, true, false, false, false, false, false, false, false] rfl rfl (any_of HT_.out (by kernel_rfl)) (fun _ _ _ h => h) (Or.inl ⟨by rfl, ?_⟩) ?_ ?_
            rotate_left
            ·
             intro w'
             go_simp
             with_reducible rfl
            rotate_left
            ·
             simp only [Act.put, List.setIfInBounds_toArray, List.set_cons_zero, List.set_cons_succ, i64_w, i32_w, IntKind.wrap_u32]
             rfl
            refine pure_ (i := 9) (N := some 90) (v := ?_) (a' := ?_) #[true, true, true, true, true, true, true, true, true, true, false, false, false, false, false, false] rfl rfl (any_of HT_.out (by kernel_rfl)) (fun _ _ _ h => h) (Or.inl ⟨by rfl, ?_⟩) ?_ ?_
            rotate_left
            ·
             intro w'
             go_simp
             with_reducible rfl
            rotate_left
            ·
             simp only [Act.put, List.setIfInBounds_toArray, List.set_cons_zero, List.set_cons_succ, i64_w, i32_w, IntKind.wrap_u32]
             rfl
            refine pure_ (i := 10) (N := some 91) (v := ?_) (a' := ?_) #[true, true, true, true, true, true, true, true, true, true, true, false, false, false, false, false] rfl rfl (any_of HT_.out (by kernel_rfl)) (fun _ _ _ h => h) (Or.inl ⟨by rfl, ?_⟩) ?_ ?_
            rotate_left
            ·
             intro w'
             go_simp
             with_reducible rfl
            rotate_left
            ·
             simp only [Act.put, List.setIfInBounds_toArray, List.set_cons_zero, List.set_cons_succ, i64_w, i32_w, IntKind.wrap_u32]
             rfl
            refine take_ (i := 11) (N := some 92) (v := ?_) (a' := ?_) #[true, true, true, true, true, true, true, true, true, true, true, true, false, false, false, false] rfl rfl (take_ofW HT_.out HW_.out (by kernel_rfl)) (fun _ _ _ h => h) (Or.inl ⟨by rfl, ?_⟩) hHeld ?_ ?_
            rotate_left
            ·
             rintro w' ⟨s0, s1, s2, s3, s4, s5, s6, s7, s8, s9, s10, s11, s12, s13, s14, s15, s16, s17, s18, s19⟩
             go_simp
             with_reducible rfl
            rotate_left
            ·
             simp only [Act.put, List.setIfInBounds_toArray, List.set_cons_zero, List.set_cons_succ, i64_w, i32_w, IntKind.wrap_u32]
             rfl
            refine one_ (i := 12) (N := some 93) #[true, true, true, true, true, true, true, true, true, true, true, true, true, false, false, false] rfl rfl (one_of HT_.out (by kernel_rfl)) (by decide) (fun K hK => ?_)
            refine goesC_ #[.pointer (some ⟨gb5, 0, none⟩)] Try.func19 (by kernel_rfl) rfl #[.slice A1_3 l1_3.length c1_3, .pointer (some ⟨gb5, 0, none⟩)] (by rfl) rfl rfl (by rfl) (by simp only [List.map_toArray, List.map_cons, List.map_nil, List.append_toArray, List.cons_append, List.nil_append]; rfl) ?_
            with_reducible refine (acts_has.calls gb5 _ _ l1_3 a2 t32 _ (bkW BK5) ?side1 ?side2 A136.out).mono ?_
            (case side1 => repeat (first | exact (Kd.C_below HR1_3.out HB.out) | (with_reducible refine Kd.C_alloc ?_ _) | (with_reducible refine Kd.C_drewN ?_ _) | (with_reducible refine Kd.C_drew ?_)))
            (case side2 => exact HC1_3.out)
            rintro e w152 ⟨rfl, hb⟩
            refine ⟨_, rfl, ?_⟩
            replace HO11 := Aside0.mk (Kd.R_below (rW HO11) hb)
            replace HO14 := Aside0.mk (Kd.R_below (rW HO14) hb)
            replace BK1 := bkB BK1 hb; replace BK5 := bkB BK5 hb
            replace BK2 := bkB BK2 hb
            replace BK19 := bkB BK19 hb
            replace HB := hbS HB hb
            (try clear hb)
            refine hK.out _ _ (bk8 BK19 (bk4 BK1 (bl8 BK2))) (fun hHeld => ?_)
            clear hK K
            refine norm_ (a' := ?_) ?_ ?_
            rotate_left
            ·
             show Act.put _ (some 93) _ = _
             simp only [Act.put, List.setIfInBounds_toArray, List.set_cons_zero, List.set_cons_succ, i64_w, i32_w, IntKind.wrap_u32]
             rfl
            refine pure_ (i := 13) (N := some 94) (v := ?_) (a' := ?_) #[true, true, true, true, true, true, true, true, true, true, true, true, true, true, false, false] rfl rfl (any_of HT_.out (by kernel_rfl)) (fun _ _ _ h => h) (Or.inl ⟨by rfl, ?_⟩) ?_ ?_
            rotate_left
            ·
             intro w'
             go_simp
             with_reducible rfl
            rotate_left
            ·
             simp only [Act.put, List.setIfInBounds_toArray, List.set_cons_zero, List.set_cons_succ, i64_w, i32_w, IntKind.wrap_u32]
             rfl
            refine pure_ (i := 14) (N := some 95) (v := ?_) (a' := ?_) #[true, true, true, true, true, true, true, true, true, true, true, true, true, true, true, false] rfl rfl (any_of HT_.out (by kernel_rfl)) (fun _ _ _ h => h) (Or.inl ⟨by rfl, ?_⟩) ?_ ?_
            rotate_left
            ·
             intro w'
             go_simp
             with_reducible rfl
            rotate_left
            ·
             simp only [Act.put, List.setIfInBounds_toArray, List.set_cons_zero, List.set_cons_succ, i64_w, i32_w, IntKind.wrap_u32]
             rfl
            refine pure_ (i := 15) (N := some 6) (v := ?_) (a' := ?_) #[true, true, true, true, true, true, true, true, true, true, true, true, true, true, true, true] rfl rfl (any_of HT_.out (by kernel_rfl)) (fun _ _ _ h => h) (Or.inl ⟨by rfl, ?_⟩) ?_ ?_
            rotate_left
            ·
             intro w'
             go_simp
             with_reducible rfl
            rotate_left
            ·
             simp only [Act.put, List.setIfInBounds_toArray, List.set_cons_zero, List.set_cons_succ, i64_w, i32_w, IntKind.wrap_u32]
             rfl
            refine done_ (done_of HT_.out (by kernel_rfl)) ?_
            try go_wp2
            go_ret
            exact ⟨by first | rfl | (simp [errW_none, errW_some] <;> rfl) | (simp [*, errW_none, errW_some] <;> rfl), hbW HB⟩
          ·
           rw [if_neg c117] at H
           have c117b0 : (a0_0 == 6) = false := beq_eq_false_iff_ne.mpr c117
           have c117b1 : (a0_0 != 6) = true := bne_iff_ne.mpr c117
           by_cases c153 : a0_0 = 7
           ·
            rw [if_pos c153] at H
            have c153b0 : (a0_0 == 7) = true := beq_iff_eq.mpr c153
            have c153b1 : (a0_0 != 7) = false := bne_eq_false_iff_eq.mpr c153
            clear c153
            replace H := Option.bind_eq_some_iff.mp H
            obtain ⟨t33, A1540, H⟩ := H
            replace H : ((acts_has.f l0_2 a2).bind fun t34 => (some (t33 == t34))) = some r := H
            have A154 := Aside0.mk A1540
            clear A1540
            replace H := Option.bind_eq_some_iff.mp H
            obtain ⟨t34, A1550, H⟩ := H
            replace H : (some (t33 == t34)) = some r := H
            have A155 := Aside0.mk A1550
            clear A1550
            obtain rfl := Option.some.inj H
            have hnb156 := NB1_2.out
            have hnc156 := NB2_1.out
            obtain ⟨hcz157_0, hcz157_1, hcz157_2, hcz157_3, hfz157_0, hfz157_1, hfz157_2, hfz157_3⟩ := bc4 BK1
            obtain ⟨hcz158_0, hcz158_1, hcz158_2, hcz158_3, hcz158_4, hcz158_5, hcz158_6, hcz158_7, hfz158_0, hfz158_1, hfz158_2, hfz158_3, hfz158_4, hfz158_5, hfz158_6, hfz158_7⟩ := bc8 BK2
            try go_wp2_with (first | ((with_reducible refine gate_callee (f := 13) rfl ?_); refine goesL_ (some 24) rfl rfl Try.func13 (by kernel_rfl) rfl #[.agg #[.int .i64 a0_0, .int .u32 a0_1, .slice A0_2 l0_2.length c0_2, .slice A0_3 l0_3.length c0_3], .agg #[.int .u32 a1_0, .int .i64 a1_1, .slice A1_2 l1_2.length c1_2, .slice A1_3 l1_3.length c1_3, .int .u32 a1_4, .int .u32 a1_5, .int .i64 a1_6, .int .u32 a1_7]] rfl (by (try simp only [List.map_toArray, List.map_cons, List.map_nil]); first | done | rfl | (simp only [List.length_drop, List.length_take]; rfl)) ?_; (with_reducible refine (q8z.calls kj5 a0_0 a0_1 (fun k_ => k_ < w.heap.size) _ _ l0_2 _ _ l0_3 a1_0 a1_1 _ _ l1_2 _ _ l1_3 a1_4 a1_5 a1_6 a1_7 t7 t8 t9 t12 t15 t16 t17 t18 _ ?side1 ?side2 ?side3 ?side4 ?side5 ?side6 ?side7 A31.out).mono ?_); (case side1 => exact Kd.V_mk HC0_2.out (Kd.F_below (Kd.C_F (Kd.heap_int .u32) HR0_2.out) (hbW HB))); (case side2 => repeat (first | exact (Kd.C_below HR0_3.out HB.out) | (with_reducible refine Kd.C_alloc ?_ _) | (with_reducible refine Kd.C_drewN ?_ _) | (with_reducible refine Kd.C_drew ?_))); (case side3 => exact HC0_3.out); (case side4 => repeat (first | exact (Kd.C_below HR1_2.out HB.out) | (with_reducible refine Kd.C_alloc ?_ _) | (with_reducible refine Kd.C_drewN ?_ _) | (with_reducible refine Kd.C_drew ?_))); (case side5 => exact HC1_2.out); (case side6 => repeat (first | exact (Kd.C_below HR1_3.out HB.out) | (with_reducible refine Kd.C_alloc ?_ _) | (with_reducible refine Kd.C_drewN ?_ _) | (with_reducible refine Kd.C_drew ?_))); (case side7 => exact HC1_3.out); rintro e w159 ⟨v10, v13, rfl, ho0, ho1, hb⟩; refine ⟨_, rfl, ?_⟩; have HO11 := Aside0.mk (Kd.R_lower (Kd.R_mono (ok' := fun k_ => some k_ ≠ (v13 : Value).ownBlock) ho0 (fun _ hk_ => hk_.2)) (below_size (hbW HB))); have HO14 := Aside0.mk (Kd.R_lower (Kd.R_mono (ok' := fun k_ => some k_ ≠ (v10 : Value).ownBlock) ho1 (fun _ hk_ => hk_.2)) (below_size (hbW HB))); replace BK1 := bkB BK1 hb; replace BK5 := bkB BK5 hb; replace BK2 := bkB BK2 hb; replace HB := hbS HB hb; (try clear hb); (try clear ho0); (try clear ho1)) | ((with_reducible refine gate_dst (N := 7) rfl ?_); (try (refine gate_guard (by rfl) ?_; dsimp only)); refine box_event ?hg (N := 7) ?hd (cs := #[.int .u32 0, .int .i64 0, .slice none 0 0, .slice none 0 0, .int .u32 0, .int .u32 0, .int .i64 0, .int .u32 0]) (t := 30) ?hr ?_; (case hd => rfl); (case hg => rfl); (case hr => first | (go_simp; done) | (go_simp; rfl)); intro gb19 hg w160 hbox hb; have BK19 := Aside0.mk (hbox); have GW19 := gwS hg HB; have GE19 := gwS hg HB; have NB1_19 := nbL hg BK1; have NB19_1 := nbG hg BK1; have NB5_19 := nbL hg BK5; have NB19_5 := nbG hg BK5; have NB2_19 := nbL hg BK2; have NB19_2 := nbG hg BK2; replace HO11 := Aside0.mk (Kd.R_below (rW HO11) hb); replace HO14 := Aside0.mk (Kd.R_below (rW HO14) hb); replace BK1 := bkB BK1 hb; replace BK5 := bkB BK5 hb; replace BK2 := bkB BK2 hb; replace HB := hbS HB hb; clear hb hbox hg; have hnb161 := NB19_1.out; have hnc161 := NB1_19.out; have hnb162 := NB19_2.out; have hnc162 := NB2_19.out; obtain ⟨hcz163_0, hcz163_1, hcz163_2, hcz163_3, hcz163_4, hcz163_5, hcz163_6, hcz163_7, hfz163_0, hfz163_1, hfz163_2, hfz163_3, hfz163_4, hfz163_5, hfz163_6, hfz163_7⟩ := bc8 BK19; obtain ⟨Ao164, co164, eo164⟩ := Kd.R_slice HO11.out; subst eo164; obtain ⟨Ao165, co165, eo165⟩ := Kd.R_slice HO14.out; subst eo165; obtain ⟨hcz166_0, hcz166_1, hcz166_2, hcz166_3, hfz166_0, hfz166_1, hfz166_2, hfz166_3⟩ := bc4 BK1))
            have n0_ : Aside0 (Kd.R (Kd.int .u32) 22 ((((((((w160.setCell ⟨gb19, 0, none⟩ (.int .u32 t7)).setCell ⟨gb19, 1, none⟩ (.int .i64 t8)).setCell ⟨gb19, 2, none⟩ (.slice Ao164 t9.length co164)).setCell ⟨gb19, 3, none⟩ (.slice Ao165 t12.length co165)).setCell ⟨gb19, 4, none⟩ (.int .u32 t15)).setCell ⟨gb19, 5, none⟩ (.int .u32 t16)).setCell ⟨gb19, 6, none⟩ (.int .i64 t17)).setCell ⟨gb19, 7, none⟩ (.int .u32 t18)) w.heap.size (fun k_ => some k_ ≠ (.slice Ao165 t12.length co165 : Value).ownBlock) (.slice Ao164 t9.length co164) t9) := ⟨moR (rW HO11)⟩
            have n1_ : Aside0 (Kd.R (Kd.int .u32) 22 ((((((((w160.setCell ⟨gb19, 0, none⟩ (.int .u32 t7)).setCell ⟨gb19, 1, none⟩ (.int .i64 t8)).setCell ⟨gb19, 2, none⟩ (.slice Ao164 t9.length co164)).setCell ⟨gb19, 3, none⟩ (.slice Ao165 t12.length co165)).setCell ⟨gb19, 4, none⟩ (.int .u32 t15)).setCell ⟨gb19, 5, none⟩ (.int .u32 t16)).setCell ⟨gb19, 6, none⟩ (.int .i64 t17)).setCell ⟨gb19, 7, none⟩ (.int .u32 t18)) w.heap.size (fun k_ => some k_ ≠ (.slice Ao164 t9.length co164 : Value).ownBlock) (.slice Ao165 t12.length co165) t12) := ⟨moR (rW HO14)⟩
            have n2_ : Aside0 (((((((((w160.setCell ⟨gb19, 0, none⟩ (.int .u32 t7)).setCell ⟨gb19, 1, none⟩ (.int .i64 t8)).setCell ⟨gb19, 2, none⟩ (.slice Ao164 t9.length co164)).setCell ⟨gb19, 3, none⟩ (.slice Ao165 t12.length co165)).setCell ⟨gb19, 4, none⟩ (.int .u32 t15)).setCell ⟨gb19, 5, none⟩ (.int .u32 t16)).setCell ⟨gb19, 6, none⟩ (.int .i64 t17)).setCell ⟨gb19, 7, none⟩ (.int .u32 t18)).heap[gb1]? = some (.cells #[.int .i64 a0_0, .int .u32 a0_1, .slice A0_2 l0_2.length c0_2, .slice A0_3 l0_3.length c0_3] 26 (0, 0))) := ⟨by (with_reducible repeat (first | refine blk_drewN ?_ _ | refine blk_drew ?_ | refine blk_alloc ?_ _)); refine blk_far ?_ NB1_19.out _; (with_reducible repeat (first | refine blk_drewN ?_ _ | refine blk_drew ?_ | refine blk_alloc ?_ _)); refine blk_far ?_ NB1_19.out _; (with_reducible repeat (first | refine blk_drewN ?_ _ | refine blk_drew ?_ | refine blk_alloc ?_ _)); refine blk_far ?_ NB1_19.out _; (with_reducible repeat (first | refine blk_drewN ?_ _ | refine blk_drew ?_ | refine blk_alloc ?_ _)); refine blk_far ?_ NB1_19.out _; (with_reducible repeat (first | refine blk_drewN ?_ _ | refine blk_drew ?_ | refine blk_alloc ?_ _)); refine blk_far ?_ NB1_19.out _; (with_reducible repeat (first | refine blk_drewN ?_ _ | refine blk_drew ?_ | refine blk_alloc ?_ _)); refine blk_far ?_ NB1_19.out _; (with_reducible repeat (first | refine blk_drewN ?_ _ | refine blk_drew ?_ | refine blk_alloc ?_ _)); refine blk_far ?_ NB1_19.out _; (with_reducible repeat (first | refine blk_drewN ?_ _ | refine blk_drew ?_ | refine blk_alloc ?_ _)); refine blk_far ?_ NB1_19.out _; (with_reducible repeat (first | refine blk_drewN ?_ _ | refine blk_drew ?_ | refine blk_alloc ?_ _)); exact BK1.out⟩
            have n99_ : Aside0 (((((((((w160.setCell ⟨gb19, 0, none⟩ (.int .u32 t7)).setCell ⟨gb19, 1, none⟩ (.int .i64 t8)).setCell ⟨gb19, 2, none⟩ (.slice Ao164 t9.length co164)).setCell ⟨gb19, 3, none⟩ (.slice Ao165 t12.length co165)).setCell ⟨gb19, 4, none⟩ (.int .u32 t15)).setCell ⟨gb19, 5, none⟩ (.int .u32 t16)).setCell ⟨gb19, 6, none⟩ (.int .i64 t17)).setCell ⟨gb19, 7, none⟩ (.int .u32 t18)).heap[gb5]? = some (.cells #[.int .u32 a2] 22 (0, 0))) := ⟨bkV BK5⟩
            have n3_ : Aside0 (((((((((w160.setCell ⟨gb19, 0, none⟩ (.int .u32 t7)).setCell ⟨gb19, 1, none⟩ (.int .i64 t8)).setCell ⟨gb19, 2, none⟩ (.slice Ao164 t9.length co164)).setCell ⟨gb19, 3, none⟩ (.slice Ao165 t12.length co165)).setCell ⟨gb19, 4, none⟩ (.int .u32 t15)).setCell ⟨gb19, 5, none⟩ (.int .u32 t16)).setCell ⟨gb19, 6, none⟩ (.int .i64 t17)).setCell ⟨gb19, 7, none⟩ (.int .u32 t18)).heap[gb2]? = some (.cells #[.int .u32 a1_0, .int .i64 a1_1, .slice A1_2 l1_2.length c1_2, .slice A1_3 l1_3.length c1_3, .int .u32 a1_4, .int .u32 a1_5, .int .i64 a1_6, .int .u32 a1_7] 30 (0, 0))) := ⟨by (with_reducible repeat (first | refine blk_drewN ?_ _ | refine blk_drew ?_ | refine blk_alloc ?_ _)); refine blk_far ?_ NB2_19.out _; (with_reducible repeat (first | refine blk_drewN ?_ _ | refine blk_drew ?_ | refine blk_alloc ?_ _)); refine blk_far ?_ NB2_19.out _; (with_reducible repeat (first | refine blk_drewN ?_ _ | refine blk_drew ?_ | refine blk_alloc ?_ _)); refine blk_far ?_ NB2_19.out _; (with_reducible repeat (first | refine blk_drewN ?_ _ | refine blk_drew ?_ | refine blk_alloc ?_ _)); refine blk_far ?_ NB2_19.out _; (with_reducible repeat (first | refine blk_drewN ?_ _ | refine blk_drew ?_ | refine blk_alloc ?_ _)); refine blk_far ?_ NB2_19.out _; (with_reducible repeat (first | refine blk_drewN ?_ _ | refine blk_drew ?_ | refine blk_alloc ?_ _)); refine blk_far ?_ NB2_19.out _; (with_reducible repeat (first | refine blk_drewN ?_ _ | refine blk_drew ?_ | refine blk_alloc ?_ _)); refine blk_far ?_ NB2_19.out _; (with_reducible repeat (first | refine blk_drewN ?_ _ | refine blk_drew ?_ | refine blk_alloc ?_ _)); refine blk_far ?_ NB2_19.out _; (with_reducible repeat (first | refine blk_drewN ?_ _ | refine blk_drew ?_ | refine blk_alloc ?_ _)); exact BK2.out⟩
            have n4_ : Aside0 (((((((((w160.setCell ⟨gb19, 0, none⟩ (.int .u32 t7)).setCell ⟨gb19, 1, none⟩ (.int .i64 t8)).setCell ⟨gb19, 2, none⟩ (.slice Ao164 t9.length co164)).setCell ⟨gb19, 3, none⟩ (.slice Ao165 t12.length co165)).setCell ⟨gb19, 4, none⟩ (.int .u32 t15)).setCell ⟨gb19, 5, none⟩ (.int .u32 t16)).setCell ⟨gb19, 6, none⟩ (.int .i64 t17)).setCell ⟨gb19, 7, none⟩ (.int .u32 t18)).heap[gb19]? = some (.cells #[.int .u32 t7, .int .i64 t8, .slice Ao164 t9.length co164, .slice Ao165 t12.length co165, .int .u32 t15, .int .u32 t16, .int .i64 t17, .int .u32 t18] 30 (0, 0))) := ⟨by (with_reducible repeat (first | refine blk_drewN ?_ _ | refine blk_drew ?_ | refine blk_alloc ?_ _)); refine blk_put (cs := #[.int .u32 t7, .int .i64 t8, .slice Ao164 t9.length co164, .slice Ao165 t12.length co165, .int .u32 t15, .int .u32 t16, .int .i64 t17, .int .u32 0]) ?_ 7 _ rfl; (with_reducible repeat (first | refine blk_drewN ?_ _ | refine blk_drew ?_ | refine blk_alloc ?_ _)); refine blk_put (cs := #[.int .u32 t7, .int .i64 t8, .slice Ao164 t9.length co164, .slice Ao165 t12.length co165, .int .u32 t15, .int .u32 t16, .int .i64 0, .int .u32 0]) ?_ 6 _ rfl; (with_reducible repeat (first | refine blk_drewN ?_ _ | refine blk_drew ?_ | refine blk_alloc ?_ _)); refine blk_put (cs := #[.int .u32 t7, .int .i64 t8, .slice Ao164 t9.length co164, .slice Ao165 t12.length co165, .int .u32 t15, .int .u32 0, .int .i64 0, .int .u32 0]) ?_ 5 _ rfl; (with_reducible repeat (first | refine blk_drewN ?_ _ | refine blk_drew ?_ | refine blk_alloc ?_ _)); refine blk_put (cs := #[.int .u32 t7, .int .i64 t8, .slice Ao164 t9.length co164, .slice Ao165 t12.length co165, .int .u32 0, .int .u32 0, .int .i64 0, .int .u32 0]) ?_ 4 _ rfl; (with_reducible repeat (first | refine blk_drewN ?_ _ | refine blk_drew ?_ | refine blk_alloc ?_ _)); refine blk_put (cs := #[.int .u32 t7, .int .i64 t8, .slice Ao164 t9.length co164, .slice none 0 0, .int .u32 0, .int .u32 0, .int .i64 0, .int .u32 0]) ?_ 3 _ rfl; (with_reducible repeat (first | refine blk_drewN ?_ _ | refine blk_drew ?_ | refine blk_alloc ?_ _)); refine blk_put (cs := #[.int .u32 t7, .int .i64 t8, .slice none 0 0, .slice none 0 0, .int .u32 0, .int .u32 0, .int .i64 0, .int .u32 0]) ?_ 2 _ rfl; (with_reducible repeat (first | refine blk_drewN ?_ _ | refine blk_drew ?_ | refine blk_alloc ?_ _)); refine blk_put (cs := #[.int .u32 t7, .int .i64 0, .slice none 0 0, .slice none 0 0, .int .u32 0, .int .u32 0, .int .i64 0, .int .u32 0]) ?_ 1 _ rfl; (with_reducible repeat (first | refine blk_drewN ?_ _ | refine blk_drew ?_ | refine blk_alloc ?_ _)); refine blk_put (cs := #[.int .u32 0, .int .i64 0, .slice none 0 0, .slice none 0 0, .int .u32 0, .int .u32 0, .int .i64 0, .int .u32 0]) ?_ 0 _ rfl; (with_reducible repeat (first | refine blk_drewN ?_ _ | refine blk_drew ?_ | refine blk_alloc ?_ _)); exact BK19.out⟩
            have n5_ : Aside0 (Below w.heap.size w ((((((((w160.setCell ⟨gb19, 0, none⟩ (.int .u32 t7)).setCell ⟨gb19, 1, none⟩ (.int .i64 t8)).setCell ⟨gb19, 2, none⟩ (.slice Ao164 t9.length co164)).setCell ⟨gb19, 3, none⟩ (.slice Ao165 t12.length co165)).setCell ⟨gb19, 4, none⟩ (.int .u32 t15)).setCell ⟨gb19, 5, none⟩ (.int .u32 t16)).setCell ⟨gb19, 6, none⟩ (.int .i64 t17)).setCell ⟨gb19, 7, none⟩ (.int .u32 t18))) := ⟨hbW HB⟩
            (try clear HO11)
            (try clear HO14)
            (try clear BK1)
            (try clear BK5)
            (try clear BK2)
            (try clear BK19)
            (try clear HB)
            generalize ((((((((w160.setCell ⟨gb19, 0, none⟩ (.int .u32 t7)).setCell ⟨gb19, 1, none⟩ (.int .i64 t8)).setCell ⟨gb19, 2, none⟩ (.slice Ao164 t9.length co164)).setCell ⟨gb19, 3, none⟩ (.slice Ao165 t12.length co165)).setCell ⟨gb19, 4, none⟩ (.int .u32 t15)).setCell ⟨gb19, 5, none⟩ (.int .u32 t16)).setCell ⟨gb19, 6, none⟩ (.int .i64 t17)).setCell ⟨gb19, 7, none⟩ (.int .u32 t18)) = w167 at n99_ n0_ n1_ n2_ n3_ n4_ n5_ ⊢
            have HO11 := n0_
            have HO14 := n1_
            have BK1 := n2_
            have BK5 := n99_
            have BK2 := n3_
            have BK19 := n4_
            have HB := n5_
            clear n0_ n1_ n2_ n3_ n4_ n5_ n99_
            replace HO11 := Aside0.mk (Kd.R_drew HO11.out)
            replace HO14 := Aside0.mk (Kd.R_drew HO14.out)
            replace BK1 := Aside0.mk (blk_drew BK1.out); replace BK5 := Aside0.mk (blk_drew BK5.out)
            replace BK2 := Aside0.mk (blk_drew BK2.out)
            replace BK19 := Aside0.mk (blk_drew BK19.out)
            replace HB := Aside0.mk (below_drew1 HB.out)
            refine start_ (n := 10) (S := fun w' => w'.cell? ⟨gb19, 0, none⟩ = some (.int .u32 t7) ∧ w'.cell? ⟨gb19, 1, none⟩ = some (.int .i64 t8) ∧ w'.cell? ⟨gb19, 2, none⟩ = some (.slice Ao164 t9.length co164) ∧ w'.cell? ⟨gb19, 3, none⟩ = some (.slice Ao165 t12.length co165) ∧ w'.cell? ⟨gb19, 4, none⟩ = some (.int .u32 t15) ∧ w'.cell? ⟨gb19, 5, none⟩ = some (.int .u32 t16) ∧ w'.cell? ⟨gb19, 6, none⟩ = some (.int .i64 t17) ∧ w'.cell? ⟨gb19, 7, none⟩ = some (.int .u32 t18) ∧ w'.cell? ⟨gb1, 0, none⟩ = some (.int .i64 a0_0) ∧ w'.cell? ⟨gb1, 1, none⟩ = some (.int .u32 a0_1) ∧ w'.cell? ⟨gb1, 2, none⟩ = some (.slice A0_2 l0_2.length c0_2) ∧ w'.cell? ⟨gb1, 3, none⟩ = some (.slice A0_3 l0_3.length c0_3)) (ds := []) #[false, false, false, false, false, false, false, false, false, false] (by kernel_rfl) rfl rfl (bk8 BK19 (bl4 BK1)) (fun hHeld => ?_); refine with_tabW q17z.tab21 q17z.bits21 (fun HT_ HW_ => ?_)
            generalize w167.drew = w168 at BK5 HO11 HO14 BK1 BK2 BK19 HB hHeld ⊢
            refine pure_ (i := 0) (N := some 98) (v := ?_) (a' := ?_) #[true, false, false, false, false, false, false, false, false, false] rfl rfl (any_of HT_.out (by kernel_rfl)) (fun _ _ _ h => h) (Or.inl ⟨by rfl, ?_⟩) ?_ ?_
            rotate_left
            ·
             intro w'
             go_simp
             with_reducible rfl
            rotate_left
            ·
             simp only [Act.put, List.setIfInBounds_toArray, List.set_cons_zero, List.set_cons_succ, i64_w, i32_w, IntKind.wrap_u32]
             rfl
            refine pure_ (i := 1) (N := some 99) (v := ?_) (a' := ?_) #[true, true, false, false, false, false, false, false, false, false] rfl rfl (any_of HT_.out (by kernel_rfl)) (fun _ _ _ h => h) (Or.inl ⟨by rfl, ?_⟩) ?_ ?_
            rotate_left
            ·
             intro w'
             go_simp
             with_reducible rfl
            rotate_left
            ·
             simp only [Act.put, List.setIfInBounds_toArray, List.set_cons_zero, List.set_cons_succ, i64_w, i32_w, IntKind.wrap_u32]
             rfl
            refine pure_ (i := 4) (N := some 102) (v := ?_) (a' := ?_) #[true, true, false, false, true, false, false, false, false, false] rfl rfl (any_of HT_.out (by kernel_rfl)) (fun _ _ _ h => h) (Or.inl ⟨by rfl, ?_⟩) ?_ ?_
            rotate_left
            ·
             intro w'
             go_simp
             with_reducible rfl
            rotate_left
            ·
             simp only [Act.put, List.setIfInBounds_toArray, List.set_cons_zero, List.set_cons_succ, i64_w, i32_w, IntKind.wrap_u32]
             rfl
            refine pure_ (i := 5) (N := some 103) (v := ?_) (a' := ?_) #[true, true, false, false, true, true, false, false, false, false] rfl rfl (any_of HT_.out (by kernel_rfl)) (fun _ _ _ h => h) (Or.inl ⟨by rfl, ?_⟩) ?_ ?_
            rotate_left
            ·
             intro w'
             go_simp
             with_reducible rfl
            rotate_left
            ·
             simp only [Act.put, List.setIfInBounds_toArray, List.set_cons_zero, List.set_cons_succ, i64_w, i32_w, IntKind.wrap_u32]
             rfl
            refine take_ (i := 2) (N := some 100) (v := ?_) (a' := ?_) #[true, true, true, false, true, true, false, false, false, false] rfl rfl (take_ofW HT_.out HW_.out (by kernel_rfl)) (fun _ _ _ h => h) (Or.inl ⟨by rfl, ?_⟩) hHeld ?_ ?_
            rotate_left
            ·
             rintro w' ⟨s0, s1, s2, s3, s4, s5, s6, s7, s8, s9, s10, s11⟩
             go_simp
             with_reducible rfl
            rotate_left
            ·
             simp only [Act.put, List.setIfInBounds_toArray, List.set_cons_zero, List.set_cons_succ, i64_w, i32_w, IntKind.wrap_u32]
             rfl
            refine take_ (i := 6) (N := some 104) (v := ?_) (a' := ?_) #[true, true, true, false, true, true, true, false, false, false] rfl rfl (take_ofW HT_.out HW_.out (by kernel_rfl)) (fun _ _ _ h => h) (Or.inl ⟨by rfl, ?_⟩) hHeld ?_ ?_
            rotate_left
            ·
             rintro w' ⟨s0, s1, s2, s3, s4, s5, s6, s7, s8, s9, s10, s11⟩
             go_simp
             with_reducible rfl
            rotate_left
            ·
             simp only [Act.put, List.setIfInBounds_toArray, List.set_cons_zero, List.set_cons_succ, i64_w, i32_w, IntKind.wrap_u32]
             rfl
            refine one_ (i := 3) (N := some 101) #[true, true, true, true, true, true, true, false, false, false] rfl rfl (one_of HT_.out (by kernel_rfl)) (by decide) (fun K hK => ?_)
            refine goesC_ #[.pointer (some ⟨gb5, 0, none⟩)] Try.func19 (by kernel_rfl) rfl #[.slice Ao165 t12.length co165, .pointer (some ⟨gb5, 0, none⟩)] (by rfl) rfl rfl (by rfl) (by simp only [List.map_toArray, List.map_cons, List.map_nil, List.append_toArray, List.cons_append, List.nil_append]; rfl) ?_
            with_reducible refine (acts_has.calls gb5 _ _ t12 a2 t33 _ (bkW BK5) ?side1 ?side2 A154.out).mono ?_
            (case side1 => repeat (first | exact (Kd.R_reads' HO14.out).2.2 | (with_reducible refine Kd.C_alloc ?_ _) | (with_reducible refine Kd.C_drewN ?_ _) | (with_reducible refine Kd.C_drew ?_)))
            (case side2 => exact (Kd.R_reads' HO14.out).2.1)
            rintro e w169 ⟨rfl, hb⟩
            refine ⟨_, rfl, ?_⟩
            replace HO11 := Aside0.mk (Kd.R_below (rW HO11) hb)
            replace HO14 := Aside0.mk (Kd.R_below (rW HO14) hb)
            replace BK1 := bkB BK1 hb; replace BK5 := bkB BK5 hb
            replace BK2 := bkB BK2 hb
            replace BK19 := bkB BK19 hb
            replace HB := hbS HB hb
            (try clear hb)
            refine hK.out _ _ (bk8 BK19 (bl4 BK1)) (fun hHeld => ?_)
            clear hK K
            refine norm_ (a' := ?_) ?_ ?_
            rotate_left
            ·
             show Act.put _ (some 101) _ = _
             simp only [Act.put, List.setIfInBounds_toArray, List.set_cons_zero, List.set_cons_succ, i64_w, i32_w, IntKind.wrap_u32]
             rfl
            refine one_ (i := 7) (N := some 105) #[true, true, true, true, true, true, true, true, false, false] rfl rfl (one_of HT_.out (by kernel_rfl)) (by decide) (fun K hK => ?_)
            refine goesC_ #[.pointer (some ⟨gb5, 0, none⟩)] Try.func19 (by kernel_rfl) rfl #[.slice A0_2 l0_2.length c0_2, .pointer (some ⟨gb5, 0, none⟩)] (by rfl) rfl rfl (by rfl) (by simp only [List.map_toArray, List.map_cons, List.map_nil, List.append_toArray, List.cons_append, List.nil_append]; rfl) ?_
            with_reducible refine (acts_has.calls gb5 _ _ l0_2 a2 t34 _ (bkW BK5) ?side1 ?side2 A155.out).mono ?_
            (case side1 => repeat (first | exact (Kd.C_below HR0_2.out HB.out) | (with_reducible refine Kd.C_alloc ?_ _) | (with_reducible refine Kd.C_drewN ?_ _) | (with_reducible refine Kd.C_drew ?_)))
            (case side2 => exact HC0_2.out)
            rintro e w170 ⟨rfl, hb⟩
            refine ⟨_, rfl, ?_⟩
            replace HO11 := Aside0.mk (Kd.R_below (rW HO11) hb)
            replace HO14 := Aside0.mk (Kd.R_below (rW HO14) hb)
            replace BK1 := bkB BK1 hb; replace BK5 := bkB BK5 hb
            replace BK2 := bkB BK2 hb
            replace BK19 := bkB BK19 hb
            replace HB := hbS HB hb
            (try clear hb)
            refine hK.out _ _ (bk8 BK19 (bl4 BK1)) (fun hHeld => ?_)
            clear hK K
            refine norm_ (a' := ?_) ?_ ?_
            rotate_left
            ·
             show Act.put _ (some 105) _ = _
             simp only [Act.put, List.setIfInBounds_toArray, List.set_cons_zero, List.set_cons_succ, i64_w, i32_w, IntKind.wrap_u32]
             rfl
            refine pure_ (i := 8) (N := some 106) (v := ?_) (a' := ?_) #[true, true, true, true, true, true, true, true, true, false] rfl rfl (any_of HT_.out (by kernel_rfl)) (fun _ _ _ h => h) (Or.inl ⟨by rfl, ?_⟩) ?_ ?_
            rotate_left
            ·
             intro w'
             go_simp
             with_reducible rfl
            rotate_left
            ·
             simp only [Act.put, List.setIfInBounds_toArray, List.set_cons_zero, List.set_cons_succ, i64_w, i32_w, IntKind.wrap_u32]
             rfl
            refine pure_ (i := 9) (N := some 6) (v := ?_) (a' := ?_) #[true, true, true, true, true, true, true, true, true, true] rfl rfl (any_of HT_.out (by kernel_rfl)) (fun _ _ _ h => h) (Or.inl ⟨by rfl, ?_⟩) ?_ ?_
            rotate_left
            ·
             intro w'
             go_simp
             with_reducible rfl
            rotate_left
            ·
             simp only [Act.put, List.setIfInBounds_toArray, List.set_cons_zero, List.set_cons_succ, i64_w, i32_w, IntKind.wrap_u32]
             rfl
            refine done_ (done_of HT_.out (by kernel_rfl)) ?_
            try go_wp2
            go_ret
            exact ⟨by first | rfl | (simp [errW_none, errW_some] <;> rfl) | (simp [*, errW_none, errW_some] <;> rfl), hbW HB⟩
           ·
            rw [if_neg c153] at H
            have c153b0 : (a0_0 == 7) = false := beq_eq_false_iff_ne.mpr c153
            have c153b1 : (a0_0 != 7) = true := bne_iff_ne.mpr c153
            replace H := Option.bind_eq_some_iff.mp H
            obtain ⟨t35, A1710, H⟩ := H
            replace H : ((acts_has.f l1_3 a2).bind fun t36 => (if t36 = true then ((q12z.f kj5 l0_3 (([a2] : List Int))).bind fun t40 => (some (t35 == (!t40)))) else (some (t35 == false)))) = some r := H
            have A171 := Aside0.mk A1710
            clear A1710
            replace H := Option.bind_eq_some_iff.mp H
            obtain ⟨t36, A1720, H⟩ := H
            replace H : (if t36 = true then ((q12z.f kj5 l0_3 (([a2] : List Int))).bind fun t40 => (some (t35 == (!t40)))) else (some (t35 == false))) = some r := H
            have A172 := Aside0.mk A1720
            clear A1720
            by_cases c173 : t36 = true
            ·
             subst c173
             have H1 : ((q12z.f kj5 l0_3 (([a2] : List Int))).bind fun t40 => (some (t35 == (!t40)))) = some r := by rw [if_pos rfl] at H; exact H
             clear H
             have H := H1
             clear H1
             obtain ⟨y37, hy37⟩ : ∃ y_ : List Int, y_ = (([a2] : List Int)) := ⟨_, rfl⟩
             replace H : ((q12z.f kj5 l0_3 y37).bind fun t40 => (some (t35 == (!t40)))) = some r := by first | (rw [hy37]; with_reducible exact H) | (have H2_ := (Option.bind_some _ _).symm.trans H; rw [hy37]; with_reducible exact H2_) | (have H2_ := (Option.bind_some _ _).symm.trans H; with_reducible exact H2_) | with_reducible exact H | (rw [hy37]; exact H) | exact H
             have Ny37 := Aside0.mk hy37
             clear hy37
             replace H := Option.bind_eq_some_iff.mp H
             obtain ⟨t40, A1740, H⟩ := H
             replace H : (some (t35 == (!t40))) = some r := H
             have A174 := Aside0.mk A1740
             clear A1740
             obtain rfl := Option.some.inj H
             have hnb175 := NB1_2.out
             have hnc175 := NB2_1.out
             obtain ⟨hcz176_0, hcz176_1, hcz176_2, hcz176_3, hfz176_0, hfz176_1, hfz176_2, hfz176_3⟩ := bc4 BK1
             obtain ⟨hcz177_0, hcz177_1, hcz177_2, hcz177_3, hcz177_4, hcz177_5, hcz177_6, hcz177_7, hfz177_0, hfz177_1, hfz177_2, hfz177_3, hfz177_4, hfz177_5, hfz177_6, hfz177_7⟩ := bc8 BK2
             try go_wp2_with (first | ((with_reducible refine gate_callee (f := 13) rfl ?_); refine goesL_ (some 24) rfl rfl Try.func13 (by kernel_rfl) rfl #[.agg #[.int .i64 a0_0, .int .u32 a0_1, .slice A0_2 l0_2.length c0_2, .slice A0_3 l0_3.length c0_3], .agg #[.int .u32 a1_0, .int .i64 a1_1, .slice A1_2 l1_2.length c1_2, .slice A1_3 l1_3.length c1_3, .int .u32 a1_4, .int .u32 a1_5, .int .i64 a1_6, .int .u32 a1_7]] rfl (by (try simp only [List.map_toArray, List.map_cons, List.map_nil]); first | done | rfl | (simp only [List.length_drop, List.length_take]; rfl)) ?_; (with_reducible refine (q8z.calls kj5 a0_0 a0_1 (fun k_ => k_ < w.heap.size) _ _ l0_2 _ _ l0_3 a1_0 a1_1 _ _ l1_2 _ _ l1_3 a1_4 a1_5 a1_6 a1_7 t7 t8 t9 t12 t15 t16 t17 t18 _ ?side1 ?side2 ?side3 ?side4 ?side5 ?side6 ?side7 A31.out).mono ?_); (case side1 => exact Kd.V_mk HC0_2.out (Kd.F_below (Kd.C_F (Kd.heap_int .u32) HR0_2.out) (hbW HB))); (case side2 => repeat (first | exact (Kd.C_below HR0_3.out HB.out) | (with_reducible refine Kd.C_alloc ?_ _) | (with_reducible refine Kd.C_drewN ?_ _) | (with_reducible refine Kd.C_drew ?_))); (case side3 => exact HC0_3.out); (case side4 => repeat (first | exact (Kd.C_below HR1_2.out HB.out) | (with_reducible refine Kd.C_alloc ?_ _) | (with_reducible refine Kd.C_drewN ?_ _) | (with_reducible refine Kd.C_drew ?_))); (case side5 => exact HC1_2.out); (case side6 => repeat (first | exact (Kd.C_below HR1_3.out HB.out) | (with_reducible refine Kd.C_alloc ?_ _) | (with_reducible refine Kd.C_drewN ?_ _) | (with_reducible refine Kd.C_drew ?_))); (case side7 => exact HC1_3.out); rintro e w178 ⟨v10, v13, rfl, ho0, ho1, hb⟩; refine ⟨_, rfl, ?_⟩; have HO11 := Aside0.mk (Kd.R_lower (Kd.R_mono (ok' := fun k_ => some k_ ≠ (v13 : Value).ownBlock) ho0 (fun _ hk_ => hk_.2)) (below_size (hbW HB))); have HO14 := Aside0.mk (Kd.R_lower (Kd.R_mono (ok' := fun k_ => some k_ ≠ (v10 : Value).ownBlock) ho1 (fun _ hk_ => hk_.2)) (below_size (hbW HB))); replace BK1 := bkB BK1 hb; replace BK5 := bkB BK5 hb; replace BK2 := bkB BK2 hb; replace HB := hbS HB hb; (try clear hb); (try clear ho0); (try clear ho1)) | ((with_reducible refine gate_dst (N := 7) rfl ?_); (try (refine gate_guard (by rfl) ?_; dsimp only)); refine box_event ?hg (N := 7) ?hd (cs := #[.int .u32 0, .int .i64 0, .slice none 0 0, .slice none 0 0, .int .u32 0, .int .u32 0, .int .i64 0, .int .u32 0]) (t := 30) ?hr ?_; (case hd => rfl); (case hg => rfl); (case hr => first | (go_simp; done) | (go_simp; rfl)); intro gb19 hg w179 hbox hb; have BK19 := Aside0.mk (hbox); have GW19 := gwS hg HB; have GE19 := gwS hg HB; have NB1_19 := nbL hg BK1; have NB19_1 := nbG hg BK1; have NB5_19 := nbL hg BK5; have NB19_5 := nbG hg BK5; have NB2_19 := nbL hg BK2; have NB19_2 := nbG hg BK2; replace HO11 := Aside0.mk (Kd.R_below (rW HO11) hb); replace HO14 := Aside0.mk (Kd.R_below (rW HO14) hb); replace BK1 := bkB BK1 hb; replace BK5 := bkB BK5 hb; replace BK2 := bkB BK2 hb; replace HB := hbS HB hb; clear hb hbox hg; have hnb180 := NB19_1.out; have hnc180 := NB1_19.out; have hnb181 := NB19_2.out; have hnc181 := NB2_19.out; obtain ⟨hcz182_0, hcz182_1, hcz182_2, hcz182_3, hcz182_4, hcz182_5, hcz182_6, hcz182_7, hfz182_0, hfz182_1, hfz182_2, hfz182_3, hfz182_4, hfz182_5, hfz182_6, hfz182_7⟩ := bc8 BK19; obtain ⟨Ao183, co183, eo183⟩ := Kd.R_slice HO11.out; subst eo183; obtain ⟨Ao184, co184, eo184⟩ := Kd.R_slice HO14.out; subst eo184; obtain ⟨hcz185_0, hcz185_1, hcz185_2, hcz185_3, hfz185_0, hfz185_1, hfz185_2, hfz185_3⟩ := bc4 BK1))
             have n0_ : Aside0 (Kd.R (Kd.int .u32) 22 ((((((((w179.setCell ⟨gb19, 0, none⟩ (.int .u32 t7)).setCell ⟨gb19, 1, none⟩ (.int .i64 t8)).setCell ⟨gb19, 2, none⟩ (.slice Ao183 t9.length co183)).setCell ⟨gb19, 3, none⟩ (.slice Ao184 t12.length co184)).setCell ⟨gb19, 4, none⟩ (.int .u32 t15)).setCell ⟨gb19, 5, none⟩ (.int .u32 t16)).setCell ⟨gb19, 6, none⟩ (.int .i64 t17)).setCell ⟨gb19, 7, none⟩ (.int .u32 t18)) w.heap.size (fun k_ => some k_ ≠ (.slice Ao184 t12.length co184 : Value).ownBlock) (.slice Ao183 t9.length co183) t9) := ⟨moR (rW HO11)⟩
             have n1_ : Aside0 (Kd.R (Kd.int .u32) 22 ((((((((w179.setCell ⟨gb19, 0, none⟩ (.int .u32 t7)).setCell ⟨gb19, 1, none⟩ (.int .i64 t8)).setCell ⟨gb19, 2, none⟩ (.slice Ao183 t9.length co183)).setCell ⟨gb19, 3, none⟩ (.slice Ao184 t12.length co184)).setCell ⟨gb19, 4, none⟩ (.int .u32 t15)).setCell ⟨gb19, 5, none⟩ (.int .u32 t16)).setCell ⟨gb19, 6, none⟩ (.int .i64 t17)).setCell ⟨gb19, 7, none⟩ (.int .u32 t18)) w.heap.size (fun k_ => some k_ ≠ (.slice Ao183 t9.length co183 : Value).ownBlock) (.slice Ao184 t12.length co184) t12) := ⟨moR (rW HO14)⟩
             have n2_ : Aside0 (((((((((w179.setCell ⟨gb19, 0, none⟩ (.int .u32 t7)).setCell ⟨gb19, 1, none⟩ (.int .i64 t8)).setCell ⟨gb19, 2, none⟩ (.slice Ao183 t9.length co183)).setCell ⟨gb19, 3, none⟩ (.slice Ao184 t12.length co184)).setCell ⟨gb19, 4, none⟩ (.int .u32 t15)).setCell ⟨gb19, 5, none⟩ (.int .u32 t16)).setCell ⟨gb19, 6, none⟩ (.int .i64 t17)).setCell ⟨gb19, 7, none⟩ (.int .u32 t18)).heap[gb1]? = some (.cells #[.int .i64 a0_0, .int .u32 a0_1, .slice A0_2 l0_2.length c0_2, .slice A0_3 l0_3.length c0_3] 26 (0, 0))) := ⟨by (with_reducible repeat (first | refine blk_drewN ?_ _ | refine blk_drew ?_ | refine blk_alloc ?_ _)); refine blk_far ?_ NB1_19.out _; (with_reducible repeat (first | refine blk_drewN ?_ _ | refine blk_drew ?_ | refine blk_alloc ?_ _)); refine blk_far ?_ NB1_19.out _; (with_reducible repeat (first | refine blk_drewN ?_ _ | refine blk_drew ?_ | refine blk_alloc ?_ _)); refine blk_far ?_ NB1_19.out _; (with_reducible repeat (first | refine blk_drewN ?_ _ | refine blk_drew ?_ | refine blk_alloc ?_ _)); refine blk_far ?_ NB1_19.out _; (with_reducible repeat (first | refine blk_drewN ?_ _ | refine blk_drew ?_ | refine blk_alloc ?_ _)); refine blk_far ?_ NB1_19.out _; (with_reducible repeat (first | refine blk_drewN ?_ _ | refine blk_drew ?_ | refine blk_alloc ?_ _)); refine blk_far ?_ NB1_19.out _; (with_reducible repeat (first | refine blk_drewN ?_ _ | refine blk_drew ?_ | refine blk_alloc ?_ _)); refine blk_far ?_ NB1_19.out _; (with_reducible repeat (first | refine blk_drewN ?_ _ | refine blk_drew ?_ | refine blk_alloc ?_ _)); refine blk_far ?_ NB1_19.out _; (with_reducible repeat (first | refine blk_drewN ?_ _ | refine blk_drew ?_ | refine blk_alloc ?_ _)); exact BK1.out⟩
             have n99_ : Aside0 (((((((((w179.setCell ⟨gb19, 0, none⟩ (.int .u32 t7)).setCell ⟨gb19, 1, none⟩ (.int .i64 t8)).setCell ⟨gb19, 2, none⟩ (.slice Ao183 t9.length co183)).setCell ⟨gb19, 3, none⟩ (.slice Ao184 t12.length co184)).setCell ⟨gb19, 4, none⟩ (.int .u32 t15)).setCell ⟨gb19, 5, none⟩ (.int .u32 t16)).setCell ⟨gb19, 6, none⟩ (.int .i64 t17)).setCell ⟨gb19, 7, none⟩ (.int .u32 t18)).heap[gb5]? = some (.cells #[.int .u32 a2] 22 (0, 0))) := ⟨bkV BK5⟩
             have n3_ : Aside0 (((((((((w179.setCell ⟨gb19, 0, none⟩ (.int .u32 t7)).setCell ⟨gb19, 1, none⟩ (.int .i64 t8)).setCell ⟨gb19, 2, none⟩ (.slice Ao183 t9.length co183)).setCell ⟨gb19, 3, none⟩ (.slice Ao184 t12.length co184)).setCell ⟨gb19, 4, none⟩ (.int .u32 t15)).setCell ⟨gb19, 5, none⟩ (.int .u32 t16)).setCell ⟨gb19, 6, none⟩ (.int .i64 t17)).setCell ⟨gb19, 7, none⟩ (.int .u32 t18)).heap[gb2]? = some (.cells #[.int .u32 a1_0, .int .i64 a1_1, .slice A1_2 l1_2.length c1_2, .slice A1_3 l1_3.length c1_3, .int .u32 a1_4, .int .u32 a1_5, .int .i64 a1_6, .int .u32 a1_7] 30 (0, 0))) := ⟨by (with_reducible repeat (first | refine blk_drewN ?_ _ | refine blk_drew ?_ | refine blk_alloc ?_ _)); refine blk_far ?_ NB2_19.out _; (with_reducible repeat (first | refine blk_drewN ?_ _ | refine blk_drew ?_ | refine blk_alloc ?_ _)); refine blk_far ?_ NB2_19.out _; (with_reducible repeat (first | refine blk_drewN ?_ _ | refine blk_drew ?_ | refine blk_alloc ?_ _)); refine blk_far ?_ NB2_19.out _; (with_reducible repeat (first | refine blk_drewN ?_ _ | refine blk_drew ?_ | refine blk_alloc ?_ _)); refine blk_far ?_ NB2_19.out _; (with_reducible repeat (first | refine blk_drewN ?_ _ | refine blk_drew ?_ | refine blk_alloc ?_ _)); refine blk_far ?_ NB2_19.out _; (with_reducible repeat (first | refine blk_drewN ?_ _ | refine blk_drew ?_ | refine blk_alloc ?_ _)); refine blk_far ?_ NB2_19.out _; (with_reducible repeat (first | refine blk_drewN ?_ _ | refine blk_drew ?_ | refine blk_alloc ?_ _)); refine blk_far ?_ NB2_19.out _; (with_reducible repeat (first | refine blk_drewN ?_ _ | refine blk_drew ?_ | refine blk_alloc ?_ _)); refine blk_far ?_ NB2_19.out _; (with_reducible repeat (first | refine blk_drewN ?_ _ | refine blk_drew ?_ | refine blk_alloc ?_ _)); exact BK2.out⟩
             have n4_ : Aside0 (((((((((w179.setCell ⟨gb19, 0, none⟩ (.int .u32 t7)).setCell ⟨gb19, 1, none⟩ (.int .i64 t8)).setCell ⟨gb19, 2, none⟩ (.slice Ao183 t9.length co183)).setCell ⟨gb19, 3, none⟩ (.slice Ao184 t12.length co184)).setCell ⟨gb19, 4, none⟩ (.int .u32 t15)).setCell ⟨gb19, 5, none⟩ (.int .u32 t16)).setCell ⟨gb19, 6, none⟩ (.int .i64 t17)).setCell ⟨gb19, 7, none⟩ (.int .u32 t18)).heap[gb19]? = some (.cells #[.int .u32 t7, .int .i64 t8, .slice Ao183 t9.length co183, .slice Ao184 t12.length co184, .int .u32 t15, .int .u32 t16, .int .i64 t17, .int .u32 t18] 30 (0, 0))) := ⟨by (with_reducible repeat (first | refine blk_drewN ?_ _ | refine blk_drew ?_ | refine blk_alloc ?_ _)); refine blk_put (cs := #[.int .u32 t7, .int .i64 t8, .slice Ao183 t9.length co183, .slice Ao184 t12.length co184, .int .u32 t15, .int .u32 t16, .int .i64 t17, .int .u32 0]) ?_ 7 _ rfl; (with_reducible repeat (first | refine blk_drewN ?_ _ | refine blk_drew ?_ | refine blk_alloc ?_ _)); refine blk_put (cs := #[.int .u32 t7, .int .i64 t8, .slice Ao183 t9.length co183, .slice Ao184 t12.length co184, .int .u32 t15, .int .u32 t16, .int .i64 0, .int .u32 0]) ?_ 6 _ rfl; (with_reducible repeat (first | refine blk_drewN ?_ _ | refine blk_drew ?_ | refine blk_alloc ?_ _)); refine blk_put (cs := #[.int .u32 t7, .int .i64 t8, .slice Ao183 t9.length co183, .slice Ao184 t12.length co184, .int .u32 t15, .int .u32 0, .int .i64 0, .int .u32 0]) ?_ 5 _ rfl; (with_reducible repeat (first | refine blk_drewN ?_ _ | refine blk_drew ?_ | refine blk_alloc ?_ _)); refine blk_put (cs := #[.int .u32 t7, .int .i64 t8, .slice Ao183 t9.length co183, .slice Ao184 t12.length co184, .int .u32 0, .int .u32 0, .int .i64 0, .int .u32 0]) ?_ 4 _ rfl; (with_reducible repeat (first | refine blk_drewN ?_ _ | refine blk_drew ?_ | refine blk_alloc ?_ _)); refine blk_put (cs := #[.int .u32 t7, .int .i64 t8, .slice Ao183 t9.length co183, .slice none 0 0, .int .u32 0, .int .u32 0, .int .i64 0, .int .u32 0]) ?_ 3 _ rfl; (with_reducible repeat (first | refine blk_drewN ?_ _ | refine blk_drew ?_ | refine blk_alloc ?_ _)); refine blk_put (cs := #[.int .u32 t7, .int .i64 t8, .slice none 0 0, .slice none 0 0, .int .u32 0, .int .u32 0, .int .i64 0, .int .u32 0]) ?_ 2 _ rfl; (with_reducible repeat (first | refine blk_drewN ?_ _ | refine blk_drew ?_ | refine blk_alloc ?_ _)); refine blk_put (cs := #[.int .u32 t7, .int .i64 0, .slice none 0 0, .slice none 0 0, .int .u32 0, .int .u32 0, .int .i64 0, .int .u32 0]) ?_ 1 _ rfl; (with_reducible repeat (first | refine blk_drewN ?_ _ | refine blk_drew ?_ | refine blk_alloc ?_ _)); refine blk_put (cs := #[.int .u32 0, .int .i64 0, .slice none 0 0, .slice none 0 0, .int .u32 0, .int .u32 0, .int .i64 0, .int .u32 0]) ?_ 0 _ rfl; (with_reducible repeat (first | refine blk_drewN ?_ _ | refine blk_drew ?_ | refine blk_alloc ?_ _)); exact BK19.out⟩
             have n5_ : Aside0 (Below w.heap.size w ((((((((w179.setCell ⟨gb19, 0, none⟩ (.int .u32 t7)).setCell ⟨gb19, 1, none⟩ (.int .i64 t8)).setCell ⟨gb19, 2, none⟩ (.slice Ao183 t9.length co183)).setCell ⟨gb19, 3, none⟩ (.slice Ao184 t12.length co184)).setCell ⟨gb19, 4, none⟩ (.int .u32 t15)).setCell ⟨gb19, 5, none⟩ (.int .u32 t16)).setCell ⟨gb19, 6, none⟩ (.int .i64 t17)).setCell ⟨gb19, 7, none⟩ (.int .u32 t18))) := ⟨hbW HB⟩
             (try clear HO11)
             (try clear HO14)
             (try clear BK1)
             (try clear BK5)
             (try clear BK2)
             (try clear BK19)
             (try clear HB)
             generalize ((((((((w179.setCell ⟨gb19, 0, none⟩ (.int .u32 t7)).setCell ⟨gb19, 1, none⟩ (.int .i64 t8)).setCell ⟨gb19, 2, none⟩ (.slice Ao183 t9.length co183)).setCell ⟨gb19, 3, none⟩ (.slice Ao184 t12.length co184)).setCell ⟨gb19, 4, none⟩ (.int .u32 t15)).setCell ⟨gb19, 5, none⟩ (.int .u32 t16)).setCell ⟨gb19, 6, none⟩ (.int .i64 t17)).setCell ⟨gb19, 7, none⟩ (.int .u32 t18)) = w186 at n99_ n0_ n1_ n2_ n3_ n4_ n5_ ⊢
             have HO11 := n0_
             have HO14 := n1_
             have BK1 := n2_
             have BK5 := n99_
             have BK2 := n3_
             have BK19 := n4_
             have HB := n5_
             clear n0_ n1_ n2_ n3_ n4_ n5_ n99_
             replace HO11 := Aside0.mk (Kd.R_drew HO11.out)
             replace HO14 := Aside0.mk (Kd.R_drew HO14.out)
             replace BK1 := Aside0.mk (blk_drew BK1.out); replace BK5 := Aside0.mk (blk_drew BK5.out)
             replace BK2 := Aside0.mk (blk_drew BK2.out)
             replace BK19 := Aside0.mk (blk_drew BK19.out)
             replace HB := Aside0.mk (below_drew1 HB.out)
             refine start_ (n := 18) (S := fun w' => w'.cell? ⟨gb19, 0, none⟩ = some (.int .u32 t7) ∧ w'.cell? ⟨gb19, 1, none⟩ = some (.int .i64 t8) ∧ w'.cell? ⟨gb19, 2, none⟩ = some (.slice Ao183 t9.length co183) ∧ w'.cell? ⟨gb19, 3, none⟩ = some (.slice Ao184 t12.length co184) ∧ w'.cell? ⟨gb19, 4, none⟩ = some (.int .u32 t15) ∧ w'.cell? ⟨gb19, 5, none⟩ = some (.int .u32 t16) ∧ w'.cell? ⟨gb19, 6, none⟩ = some (.int .i64 t17) ∧ w'.cell? ⟨gb19, 7, none⟩ = some (.int .u32 t18) ∧ w'.cell? ⟨gb2, 0, none⟩ = some (.int .u32 a1_0) ∧ w'.cell? ⟨gb2, 1, none⟩ = some (.int .i64 a1_1) ∧ w'.cell? ⟨gb2, 2, none⟩ = some (.slice A1_2 l1_2.length c1_2) ∧ w'.cell? ⟨gb2, 3, none⟩ = some (.slice A1_3 l1_3.length c1_3) ∧ w'.cell? ⟨gb2, 4, none⟩ = some (.int .u32 a1_4) ∧ w'.cell? ⟨gb2, 5, none⟩ = some (.int .u32 a1_5) ∧ w'.cell? ⟨gb2, 6, none⟩ = some (.int .i64 a1_6) ∧ w'.cell? ⟨gb2, 7, none⟩ = some (.int .u32 a1_7) ∧ w'.cell? ⟨gb1, 0, none⟩ = some (.int .i64 a0_0) ∧ w'.cell? ⟨gb1, 1, none⟩ = some (.int .u32 a0_1) ∧ w'.cell? ⟨gb1, 2, none⟩ = some (.slice A0_2 l0_2.length c0_2) ∧ w'.cell? ⟨gb1, 3, none⟩ = some (.slice A0_3 l0_3.length c0_3) ∧ w'.cell? ⟨gb5, 0, none⟩ = some (.int .u32 a2)) (ds := []) #[false, false, false, false, false, false, false, false, false, false, false, false, false, false, false, false, false, false] (by kernel_rfl) rfl rfl (bk8 BK19 (bk8 BK2 (bk4 BK1 ((blk_cell BK5.out 0).trans rfl)))) (fun hHeld => ?_); refine with_tabW q17z.tab22 q17z.bits22 (fun HT_ HW_ => ?_)
             generalize w186.drew = w187 at BK5 HO11 HO14 BK1 BK2 BK19 HB hHeld ⊢
             refine pure_ (i := 0) (N := some 107) (v := ?_) (a' := ?_) #[true, false, false, false, false, false, false, false, false, false, false, false, false, false, false, false, false, false] rfl rfl (any_of HT_.out (by kernel_rfl)) (fun _ _ _ h => h) (Or.inl ⟨by rfl, ?_⟩) ?_ ?_
             rotate_left
             ·
              intro w'
              go_simp
              with_reducible rfl
             rotate_left
             ·
              simp only [Act.put, List.setIfInBounds_toArray, List.set_cons_zero, List.set_cons_succ, i64_w, i32_w, IntKind.wrap_u32]
              rfl
             refine pure_ (i := 1) (N := some 108) (v := ?_) (a' := ?_) #[true, true, false, false, false, false, false, false, false, false, false, false, false, false, false, false, false, false] rfl rfl (any_of HT_.out (by kernel_rfl)) (fun _ _ _ h => h) (Or.inl ⟨by rfl, ?_⟩) ?_ ?_
             rotate_left
             ·
              intro w'
              go_simp
              with_reducible rfl
             rotate_left
             ·
              simp only [Act.put, List.setIfInBounds_toArray, List.set_cons_zero, List.set_cons_succ, i64_w, i32_w, IntKind.wrap_u32]
              rfl
             refine pure_ (i := 4) (N := some 111) (v := ?_) (a' := ?_) #[true, true, false, false, true, false, false, false, false, false, false, false, false, false, false, false, false, false] rfl rfl (any_of HT_.out (by kernel_rfl)) (fun _ _ _ h => h) (Or.inl ⟨by rfl, ?_⟩) ?_ ?_
             rotate_left
             ·
              intro w'
              go_simp
              with_reducible rfl
             rotate_left
             ·
              simp only [Act.put, List.setIfInBounds_toArray, List.set_cons_zero, List.set_cons_succ, i64_w, i32_w, IntKind.wrap_u32]
              rfl
             refine pure_ (i := 5) (N := some 112) (v := ?_) (a' := ?_) #[true, true, false, false, true, true, false, false, false, false, false, false, false, false, false, false, false, false] rfl rfl (any_of HT_.out (by kernel_rfl)) (fun _ _ _ h => h) (Or.inl ⟨by rfl, ?_⟩) ?_ ?_
             rotate_left
             ·
              intro w'
              go_simp
              with_reducible rfl
             rotate_left
             ·
              simp only [Act.put, List.setIfInBounds_toArray, List.set_cons_zero, List.set_cons_succ, i64_w, i32_w, IntKind.wrap_u32]
              rfl
             refine take_ (i := 2) (N := some 109) (v := ?_) (a' := ?_) #[true, true, true, false, true, true, false, false, false, false, false, false, false, false, false, false, false, false] rfl rfl (take_ofW HT_.out HW_.out (by kernel_rfl)) (fun _ _ _ h => h) (Or.inl ⟨by rfl, ?_⟩) hHeld ?_ ?_
             rotate_left
             ·
              rintro w' ⟨s0, s1, s2, s3, s4, s5, s6, s7, s8, s9, s10, s11, s12, s13, s14, s15, s16, s17, s18, s19, s20⟩
              go_simp
              with_reducible rfl
             rotate_left
             ·
              simp only [Act.put, List.setIfInBounds_toArray, List.set_cons_zero, List.set_cons_succ, i64_w, i32_w, IntKind.wrap_u32]
              rfl
             refine take_ (i := 6) (N := some 113) (v := ?_) (a' := ?_) #[true, true, true, false, true, true, true, false, false, false, false, false, false, false, false, false, false, false] rfl rfl (take_ofW HT_.out HW_.out (by kernel_rfl)) (fun _ _ _ h => h) (Or.inl ⟨by rfl, ?_⟩) hHeld ?_ ?_
             rotate_left
             ·
              rintro w' ⟨s0, s1, s2, s3, s4, s5, s6, s7, s8, s9, s10, s11, s12, s13, s14, s15, s16, s17, s18, s19, s20⟩
              go_simp
              with_reducible rfl
             rotate_left
             ·
              simp only [Act.put, List.setIfInBounds_toArray, List.set_cons_zero, List.set_cons_succ, i64_w, i32_w, IntKind.wrap_u32]
              rfl
             refine one_ (i := 3) (N := some 110) #[true, true, true, true, true, true, true, false, false, false, false, false, false, false, false, false, false, false] rfl rfl (one_of HT_.out (by kernel_rfl)) (by decide) (fun K hK => ?_)
             refine goesC_ #[.pointer (some ⟨gb5, 0, none⟩)] Try.func19 (by kernel_rfl) rfl #[.slice Ao184 t12.length co184, .pointer (some ⟨gb5, 0, none⟩)] (by rfl) rfl rfl (by rfl) (by simp only [List.map_toArray, List.map_cons, List.map_nil, List.append_toArray, List.cons_append, List.nil_append]; rfl) ?_
             with_reducible refine (acts_has.calls gb5 _ _ t12 a2 t35 _ (bkW BK5) ?side1 ?side2 A171.out).mono ?_
             (case side1 => repeat (first | exact (Kd.R_reads' HO14.out).2.2 | (with_reducible refine Kd.C_alloc ?_ _) | (with_reducible refine Kd.C_drewN ?_ _) | (with_reducible refine Kd.C_drew ?_)))
             (case side2 => exact (Kd.R_reads' HO14.out).2.1)
             rintro e w188 ⟨rfl, hb⟩
             refine ⟨_, rfl, ?_⟩
             replace HO11 := Aside0.mk (Kd.R_below (rW HO11) hb)
             replace HO14 := Aside0.mk (Kd.R_below (rW HO14) hb)
             replace BK1 := bkB BK1 hb; replace BK5 := bkB BK5 hb
             replace BK2 := bkB BK2 hb
             replace BK19 := bkB BK19 hb
             replace HB := hbS HB hb
             (try clear hb)
             refine hK.out _ _ (bk8 BK19 (bk8 BK2 (bk4 BK1 ((blk_cell BK5.out 0).trans rfl)))) (fun hHeld => ?_)
             clear hK K
             refine norm_ (a' := ?_) ?_ ?_
             rotate_left
             ·
              show Act.put _ (some 110) _ = _
              simp only [Act.put, List.setIfInBounds_toArray, List.set_cons_zero, List.set_cons_succ, i64_w, i32_w, IntKind.wrap_u32]
              rfl
             refine one_ (i := 7) (N := some 114) #[true, true, true, true, true, true, true, true, false, false, false, false, false, false, false, false, false, false] rfl rfl (one_of HT_.out (by kernel_rfl)) (by decide) (fun K hK => ?_)
             refine goesC_ #[.pointer (some ⟨gb5, 0, none⟩)] Try.func19 (by kernel_rfl) rfl #[.slice A1_3 l1_3.length c1_3, .pointer (some ⟨gb5, 0, none⟩)] (by rfl) rfl rfl (by rfl) (by simp only [List.map_toArray, List.map_cons, List.map_nil, List.append_toArray, List.cons_append, List.nil_append]; rfl) ?_
             with_reducible refine (acts_has.calls gb5 _ _ l1_3 a2 true _ (bkW BK5) ?side1 ?side2 A172.out).mono ?_
             (case side1 => repeat (first | exact (Kd.C_below HR1_3.out HB.out) | (with_reducible refine Kd.C_alloc ?_ _) | (with_reducible refine Kd.C_drewN ?_ _) | (with_reducible refine Kd.C_drew ?_)))
             (case side2 => exact HC1_3.out)
             rintro e w189 ⟨rfl, hb⟩
             refine ⟨_, rfl, ?_⟩
             replace HO11 := Aside0.mk (Kd.R_below (rW HO11) hb)
             replace HO14 := Aside0.mk (Kd.R_below (rW HO14) hb)
             replace BK1 := bkB BK1 hb; replace BK5 := bkB BK5 hb
             replace BK2 := bkB BK2 hb
             replace BK19 := bkB BK19 hb
             replace HB := hbS HB hb
             (try clear hb)
             refine hK.out _ _ (bk8 BK19 (bk8 BK2 (bk4 BK1 ((blk_cell BK5.out 0).trans rfl)))) (fun hHeld => ?_)
             clear hK K
             refine norm_ (a' := ?_) ?_ ?_
             rotate_left
             ·
              show Act.put _ (some 114) _ = _
              simp only [Act.put, List.setIfInBounds_toArray, List.set_cons_zero, List.set_cons_succ, i64_w, i32_w, IntKind.wrap_u32]
              rfl
             refine pure_ (i := 8) (N := some 115) (v := ?_) (a' := ?_) #[true, true, true, true, true, true, true, true, true, false, false, false, false, false, false, false, false, false] rfl rfl (any_of HT_.out (by kernel_rfl)) (fun _ _ _ h => h) (Or.inl ⟨by rfl, ?_⟩) ?_ ?_
             rotate_left
             ·
              intro w'
              go_simp
              with_reducible rfl
             rotate_left
             ·
              simp only [Act.put, List.setIfInBounds_toArray, List.set_cons_zero, List.set_cons_succ, i64_w, i32_w, IntKind.wrap_u32]
              rfl
             refine pure_ (i := 9) (N := some 116) (v := ?_) (a' := ?_) #[true, true, true, true, true, true, true, true, true, true, false, false, false, false, false, false, false, false] rfl rfl (any_of HT_.out (by kernel_rfl)) (fun _ _ _ h => h) (Or.inl ⟨by rfl, ?_⟩) ?_ ?_
             rotate_left
             ·
              intro w'
              go_simp
              with_reducible rfl
             rotate_left
             ·
              simp only [Act.put, List.setIfInBounds_toArray, List.set_cons_zero, List.set_cons_succ, i64_w, i32_w, IntKind.wrap_u32]
              rfl
             refine take_ (i := 11) (N := some 118) (v := ?_) (a' := ?_) #[true, true, true, true, true, true, true, true, true, true, false, true, false, false, false, false, false, false] rfl rfl (take_ofW HT_.out HW_.out (by kernel_rfl)) (fun _ _ _ h => h) (Or.inl ⟨by rfl, ?_⟩) hHeld ?_ ?_
             rotate_left
             ·
              rintro w' ⟨s0, s1, s2, s3, s4, s5, s6, s7, s8, s9, s10, s11, s12, s13, s14, s15, s16, s17, s18, s19, s20⟩
              go_simp
              with_reducible rfl
             rotate_left
             ·
              simp only [Act.put, List.setIfInBounds_toArray, List.set_cons_zero, List.set_cons_succ, i64_w, i32_w, IntKind.wrap_u32]
              rfl
             refine take_ (i := 10) (N := some 117) (v := ?_) (a' := ?_) #[true, true, true, true, true, true, true, true, true, true, true, true, false, false, false, false, false, false] rfl rfl (take_ofW HT_.out HW_.out (by kernel_rfl)) (fun _ _ _ h => h) (Or.inl ⟨by rfl, ?_⟩) hHeld ?_ ?_
             rotate_left
             ·
              rintro w' ⟨s0, s1, s2, s3, s4, s5, s6, s7, s8, s9, s10, s11, s12, s13, s14, s15, s16, s17, s18, s19, s20⟩
              go_simp
              with_reducible rfl
             rotate_left
             ·
              simp only [Act.put, List.setIfInBounds_toArray, List.set_cons_zero, List.set_cons_succ, i64_w, i32_w, IntKind.wrap_u32]
              rfl
             refine one_ (i := 12) (N := some 119) #[true, true, true, true, true, true, true, true, true, true, true, true, true, false, false, false, false, false] rfl rfl (one_of HT_.out (by kernel_rfl)) (by decide) (fun K hK => ?_)
             refine Kd.R_lit_step (Kd.int .u32) _ 22 ?hg (N := 119) ?hd (xs := ([a2] : List Int)) (inner := [.int .u32 a2]) (ok := fun _ => True) (okp := fun _ => True) ?hr ?hp (fun _ hk => hk) trivial (Below.refl _ _) (Nat.le_refl _) (by simp) ?_; (case hd => rfl); (case hg => rfl); (case hr => first | (go_simp; done) | (go_simp; rfl)); (case hp => exact (Reps.one (show Kd.M (Kd.int .u32) _ _ _ a2 [.int .u32 a2] from rfl) (Reps.none _ _)))
             intro v38 w190 ho191 hb hg_ hnew_
             clear hg_ hnew_
             (first | rw [← Ny37.out] at ho191 | (simp only [Int.reduceToNat] at ho191; rw [← Ny37.out] at ho191))
             have HO39 := Aside0.mk (Kd.R_lower (Kd.R_new' (Kd.R_new' ho191 (Kd.R_lt (rW HO11))) (Kd.R_lt (rW HO14))) (below_size (hbW HB)))
             replace HO11 := Aside0.mk (Kd.R_elder' (rW HO11) (Kd.R_base ho191) hb)
             replace HO14 := Aside0.mk (Kd.R_elder' (rW HO14) (Kd.R_base ho191) hb)
             replace BK1 := bkB BK1 hb; replace BK5 := bkB BK5 hb
             replace BK2 := bkB BK2 hb
             replace BK19 := bkB BK19 hb
             replace HB := hbS HB hb
             clear hb ho191
             obtain ⟨Ao192, co192, eo192⟩ := Kd.R_slice HO39.out
             (first | subst eo192 | (injection eo192 with f1_ f2_ f3_; have f4_ := f1_.symm; have f5_ := f3_.symm; clear f1_ f2_ f3_; subst f4_; subst f5_))
             refine hK.out _ _ (bk8 BK19 (bk8 BK2 (bk4 BK1 ((blk_cell BK5.out 0).trans rfl)))) (fun hHeld => ?_)
             clear hK K
             refine norm_ (a' := ?_) ?_ ?_
             rotate_left
             ·
              show Act.put _ (some 119) _ = _
              simp only [Act.put, List.setIfInBounds_toArray, List.set_cons_zero, List.set_cons_succ, i64_w, i32_w, IntKind.wrap_u32]
              rfl
             refine one_ (i := 13) (N := some 120) #[true, true, true, true, true, true, true, true, true, true, true, true, true, true, false, false, false, false] rfl rfl (one_of HT_.out (by kernel_rfl)) (by decide) (fun K hK => ?_)
             refine goes_ Try.func21 (by kernel_rfl) rfl #[.slice A0_3 l0_3.length c0_3, .slice Ao192 y37.length co192] (by rfl) rfl rfl (by (try simp only [List.map_toArray, List.map_cons, List.map_nil]); first | done | rfl | (simp only [List.length_drop, List.length_take]; rfl)) ?_
             with_reducible refine (q12z.calls kj5 _ _ l0_3 _ _ y37 t40 _ ?side1 ?side2 ?side3 ?side4 A174.out).mono ?_
             (case side1 => repeat (first | exact (Kd.C_below HR0_3.out HB.out) | (with_reducible refine Kd.C_alloc ?_ _) | (with_reducible refine Kd.C_drewN ?_ _) | (with_reducible refine Kd.C_drew ?_)))
             (case side2 => exact HC0_3.out)
             (case side3 => repeat (first | exact (Kd.R_reads' HO39.out).2.2 | (with_reducible refine Kd.C_alloc ?_ _) | (with_reducible refine Kd.C_drewN ?_ _) | (with_reducible refine Kd.C_drew ?_)))
             (case side4 => exact (Kd.R_reads' HO39.out).2.1)
             rintro e w193 ⟨rfl, hb⟩
             refine ⟨_, rfl, ?_⟩
             replace HO11 := Aside0.mk (Kd.R_below (rW HO11) hb)
             replace HO14 := Aside0.mk (Kd.R_below (rW HO14) hb)
             replace HO39 := Aside0.mk (Kd.R_below (rW HO39) hb)
             replace BK1 := bkB BK1 hb; replace BK5 := bkB BK5 hb
             replace BK2 := bkB BK2 hb
             replace BK19 := bkB BK19 hb
             replace HB := hbS HB hb
             (try clear hb)
             (try clear hk)
             refine hK.out _ _ (bk8 BK19 (bk8 BK2 (bk4 BK1 ((blk_cell BK5.out 0).trans rfl)))) (fun hHeld => ?_)
             clear hK K
             refine norm_ (a' := ?_) ?_ ?_
             rotate_left
             ·
              show Act.put _ (some 120) _ = _
              simp only [Act.put, List.setIfInBounds_toArray, List.set_cons_zero, List.set_cons_succ, i64_w, i32_w, IntKind.wrap_u32]
              rfl
             refine pure_ (i := 14) (N := some 121) (v := ?_) (a' := ?_) #[true, true, true, true, true, true, true, true, true, true, true, true, true, true, true, false, false, false] rfl rfl (any_of HT_.out (by kernel_rfl)) (fun _ _ _ h => h) (Or.inl ⟨by rfl, ?_⟩) ?_ ?_
             rotate_left
             ·
              intro w'
              go_simp
              with_reducible rfl
             rotate_left
             ·
              simp only [Act.put, List.setIfInBounds_toArray, List.set_cons_zero, List.set_cons_succ, i64_w, i32_w, IntKind.wrap_u32]
              rfl
             refine pure_ (i := 15) (N := some 122) (v := ?_) (a' := ?_) #[true, true, true, true, true, true, true, true, true, true, true, true, true, true, true, true, false, false] rfl rfl (any_of HT_.out (by kernel_rfl)) (fun _ _ _ h => h) (Or.inl ⟨by rfl, ?_⟩) ?_ ?_
             rotate_left
             ·
              intro w'
              go_simp
              with_reducible rfl
             rotate_left
             ·
              simp only [Act.put, List.setIfInBounds_toArray, List.set_cons_zero, List.set_cons_succ, i64_w, i32_w, IntKind.wrap_u32]
              rfl
             refine pure_ (i := 16) (N := some 123) (v := ?_) (a' := ?_) #[true, true, true, true, true, true, true, true, true, true, true, true, true, true, true, true, true, false] rfl rfl (any_of HT_.out (by kernel_rfl)) (fun _ _ _ h => h) (Or.inl ⟨by rfl, ?_⟩) ?_ ?_
             rotate_left
             ·
              intro w'
              go_simp
              with_reducible rfl
             rotate_left
             ·
              simp only [Act.put, List.setIfInBounds_toArray, List.set_cons_zero, List.set_cons_succ, i64_w, i32_w, IntKind.wrap_u32]
              rfl
             refine pure_ (i := 17) (N := some 6) (v := ?_) (a' := ?_) #[true, true, true, true, true, true, true, true, true, true, true, true, true, true, true, true, true, true] rfl rfl (any_of HT_.out (by kernel_rfl)) (fun _ _ _ h => h) (Or.inl ⟨by rfl, ?_⟩) ?_ ?_
             rotate_left
             ·
              intro w'
              go_simp
              with_reducible rfl
             rotate_left
             ·
              simp only [Act.put, List.setIfInBounds_toArray, List.set_cons_zero, List.set_cons_succ, i64_w, i32_w, IntKind.wrap_u32]
              rfl
             refine done_ (done_of HT_.out (by kernel_rfl)) ?_
             try go_wp2
             go_ret
             exact ⟨by first | rfl | (simp [errW_none, errW_some] <;> rfl) | (simp [*, errW_none, errW_some] <;> rfl), hbW HB⟩
            ·
             replace c173 := Bool.eq_false_iff.mpr c173
             subst c173
             have H1 : (some (t35 == false)) = some r := by rw [if_neg (show ¬ (false = true) by decide)] at H; exact H
             clear H
             have H := H1
             clear H1
             obtain rfl := Option.some.inj H
             have hnb194 := NB1_2.out
             have hnc194 := NB2_1.out
             obtain ⟨hcz195_0, hcz195_1, hcz195_2, hcz195_3, hfz195_0, hfz195_1, hfz195_2, hfz195_3⟩ := bc4 BK1
             obtain ⟨hcz196_0, hcz196_1, hcz196_2, hcz196_3, hcz196_4, hcz196_5, hcz196_6, hcz196_7, hfz196_0, hfz196_1, hfz196_2, hfz196_3, hfz196_4, hfz196_5, hfz196_6, hfz196_7⟩ := bc8 BK2
             try go_wp2_with (first | ((with_reducible refine gate_callee (f := 13) rfl ?_); refine goesL_ (some 24) rfl rfl Try.func13 (by kernel_rfl) rfl #[.agg #[.int .i64 a0_0, .int .u32 a0_1, .slice A0_2 l0_2.length c0_2, .slice A0_3 l0_3.length c0_3], .agg #[.int .u32 a1_0, .int .i64 a1_1, .slice A1_2 l1_2.length c1_2, .slice A1_3 l1_3.length c1_3, .int .u32 a1_4, .int .u32 a1_5, .int .i64 a1_6, .int .u32 a1_7]] rfl (by (try simp only [List.map_toArray, List.map_cons, List.map_nil]); first | done | rfl | (simp only [List.length_drop, List.length_take]; rfl)) ?_; (with_reducible refine (q8z.calls kj5 a0_0 a0_1 (fun k_ => k_ < w.heap.size) _ _ l0_2 _ _ l0_3 a1_0 a1_1 _ _ l1_2 _ _ l1_3 a1_4 a1_5 a1_6 a1_7 t7 t8 t9 t12 t15 t16 t17 t18 _ ?side1 ?side2 ?side3 ?side4 ?side5 ?side6 ?side7 A31.out).mono ?_); (case side1 => exact Kd.V_mk HC0_2.out (Kd.F_below (Kd.C_F (Kd.heap_int .u32) HR0_2.out) (hbW HB))); (case side2 => repeat (first | exact (Kd.C_below HR0_3.out HB.out) | (with_reducible refine Kd.C_alloc ?_ _) | (with_reducible refine Kd.C_drewN ?_ _) | (with_reducible refine Kd.C_drew ?_))); (case side3 => exact HC0_3.out); (case side4 => repeat (first | exact (Kd.C_below HR1_2.out HB.out) | (with_reducible refine Kd.C_alloc ?_ _) | (with_reducible refine Kd.C_drewN ?_ _) | (with_reducible refine Kd.C_drew ?_))); (case side5 => exact HC1_2.out); (case side6 => repeat (first | exact (Kd.C_below HR1_3.out HB.out) | (with_reducible refine Kd.C_alloc ?_ _) | (with_reducible refine Kd.C_drewN ?_ _) | (with_reducible refine Kd.C_drew ?_))); (case side7 => exact HC1_3.out); rintro e w197 ⟨v10, v13, rfl, ho0, ho1, hb⟩; refine ⟨_, rfl, ?_⟩; have HO11 := Aside0.mk (Kd.R_lower (Kd.R_mono (ok' := fun k_ => some k_ ≠ (v13 : Value).ownBlock) ho0 (fun _ hk_ => hk_.2)) (below_size (hbW HB))); have HO14 := Aside0.mk (Kd.R_lower (Kd.R_mono (ok' := fun k_ => some k_ ≠ (v10 : Value).ownBlock) ho1 (fun _ hk_ => hk_.2)) (below_size (hbW HB))); replace BK1 := bkB BK1 hb; replace BK5 := bkB BK5 hb; replace BK2 := bkB BK2 hb; replace HB := hbS HB hb; (try clear hb); (try clear ho0); (try clear ho1)) | ((with_reducible refine gate_dst (N := 7) rfl ?_); (try (refine gate_guard (by rfl) ?_; dsimp only)); refine box_event ?hg (N := 7) ?hd (cs := #[.int .u32 0, .int .i64 0, .slice none 0 0, .slice none 0 0, .int .u32 0, .int .u32 0, .int .i64 0, .int .u32 0]) (t := 30) ?hr ?_; (case hd => rfl); (case hg => rfl); (case hr => first | (go_simp; done) | (go_simp; rfl)); intro gb19 hg w198 hbox hb; have BK19 := Aside0.mk (hbox); have GW19 := gwS hg HB; have GE19 := gwS hg HB; have NB1_19 := nbL hg BK1; have NB19_1 := nbG hg BK1; have NB5_19 := nbL hg BK5; have NB19_5 := nbG hg BK5; have NB2_19 := nbL hg BK2; have NB19_2 := nbG hg BK2; replace HO11 := Aside0.mk (Kd.R_below (rW HO11) hb); replace HO14 := Aside0.mk (Kd.R_below (rW HO14) hb); replace BK1 := bkB BK1 hb; replace BK5 := bkB BK5 hb; replace BK2 := bkB BK2 hb; replace HB := hbS HB hb; clear hb hbox hg; have hnb199 := NB19_1.out; have hnc199 := NB1_19.out; have hnb200 := NB19_2.out; have hnc200 := NB2_19.out; obtain ⟨hcz201_0, hcz201_1, hcz201_2, hcz201_3, hcz201_4, hcz201_5, hcz201_6, hcz201_7, hfz201_0, hfz201_1, hfz201_2, hfz201_3, hfz201_4, hfz201_5, hfz201_6, hfz201_7⟩ := bc8 BK19; obtain ⟨Ao202, co202, eo202⟩ := Kd.R_slice HO11.out; subst eo202; obtain ⟨Ao203, co203, eo203⟩ := Kd.R_slice HO14.out; subst eo203; obtain ⟨hcz204_0, hcz204_1, hcz204_2, hcz204_3, hfz204_0, hfz204_1, hfz204_2, hfz204_3⟩ := bc4 BK1))
             have n0_ : Aside0 (Kd.R (Kd.int .u32) 22 ((((((((w198.setCell ⟨gb19, 0, none⟩ (.int .u32 t7)).setCell ⟨gb19, 1, none⟩ (.int .i64 t8)).setCell ⟨gb19, 2, none⟩ (.slice Ao202 t9.length co202)).setCell ⟨gb19, 3, none⟩ (.slice Ao203 t12.length co203)).setCell ⟨gb19, 4, none⟩ (.int .u32 t15)).setCell ⟨gb19, 5, none⟩ (.int .u32 t16)).setCell ⟨gb19, 6, none⟩ (.int .i64 t17)).setCell ⟨gb19, 7, none⟩ (.int .u32 t18)) w.heap.size (fun k_ => some k_ ≠ (.slice Ao203 t12.length co203 : Value).ownBlock) (.slice Ao202 t9.length co202) t9) := ⟨moR (rW HO11)⟩
             have n1_ : Aside0 (Kd.R (Kd.int .u32) 22 ((((((((w198.setCell ⟨gb19, 0, none⟩ (.int .u32 t7)).setCell ⟨gb19, 1, none⟩ (.int .i64 t8)).setCell ⟨gb19, 2, none⟩ (.slice Ao202 t9.length co202)).setCell ⟨gb19, 3, none⟩ (.slice Ao203 t12.length co203)).setCell ⟨gb19, 4, none⟩ (.int .u32 t15)).setCell ⟨gb19, 5, none⟩ (.int .u32 t16)).setCell ⟨gb19, 6, none⟩ (.int .i64 t17)).setCell ⟨gb19, 7, none⟩ (.int .u32 t18)) w.heap.size (fun k_ => some k_ ≠ (.slice Ao202 t9.length co202 : Value).ownBlock) (.slice Ao203 t12.length co203) t12) := ⟨moR (rW HO14)⟩
             have n2_ : Aside0 (((((((((w198.setCell ⟨gb19, 0, none⟩ (.int .u32 t7)).setCell ⟨gb19, 1, none⟩ (.int .i64 t8)).setCell ⟨gb19, 2, none⟩ (.slice Ao202 t9.length co202)).setCell ⟨gb19, 3, none⟩ (.slice Ao203 t12.length co203)).setCell ⟨gb19, 4, none⟩ (.int .u32 t15)).setCell ⟨gb19, 5, none⟩ (.int .u32 t16)).setCell ⟨gb19, 6, none⟩ (.int .i64 t17)).setCell ⟨gb19, 7, none⟩ (.int .u32 t18)).heap[gb1]? = some (.cells #[.int .i64 a0_0, .int .u32 a0_1, .slice A0_2 l0_2.length c0_2, .slice A0_3 l0_3.length c0_3] 26 (0, 0))) := ⟨by (with_reducible repeat (first | refine blk_drewN ?_ _ | refine blk_drew ?_ | refine blk_alloc ?_ _)); refine blk_far ?_ NB1_19.out _; (with_reducible repeat (first | refine blk_drewN ?_ _ | refine blk_drew ?_ | refine blk_alloc ?_ _)); refine blk_far ?_ NB1_19.out _; (with_reducible repeat (first | refine blk_drewN ?_ _ | refine blk_drew ?_ | refine blk_alloc ?_ _)); refine blk_far ?_ NB1_19.out _; (with_reducible repeat (first | refine blk_drewN ?_ _ | refine blk_drew ?_ | refine blk_alloc ?_ _)); refine blk_far ?_ NB1_19.out _; (with_reducible repeat (first | refine blk_drewN ?_ _ | refine blk_drew ?_ | refine blk_alloc ?_ _)); refine blk_far ?_ NB1_19.out _; (with_reducible repeat (first | refine blk_drewN ?_ _ | refine blk_drew ?_ | refine blk_alloc ?_ _)); refine blk_far ?_ NB1_19.out _; (with_reducible repeat (first | refine blk_drewN ?_ _ | refine blk_drew ?_ | refine blk_alloc ?_ _)); refine blk_far ?_ NB1_19.out _; (with_reducible repeat (first | refine blk_drewN ?_ _ | refine blk_drew ?_ | refine blk_alloc ?_ _)); refine blk_far ?_ NB1_19.out _; (with_reducible repeat (first | refine blk_drewN ?_ _ | refine blk_drew ?_ | refine blk_alloc ?_ _)); exact BK1.out⟩
             have n99_ : Aside0 (((((((((w198.setCell ⟨gb19, 0, none⟩ (.int .u32 t7)).setCell ⟨gb19, 1, none⟩ (.int .i64 t8)).setCell ⟨gb19, 2, none⟩ (.slice Ao202 t9.length co202)).setCell ⟨gb19, 3, none⟩ (.slice Ao203 t12.length co203)).setCell ⟨gb19, 4, none⟩ (.int .u32 t15)).setCell ⟨gb19, 5, none⟩ (.int .u32 t16)).setCell ⟨gb19, 6, none⟩ (.int .i64 t17)).setCell ⟨gb19, 7, none⟩ (.int .u32 t18)).heap[gb5]? = some (.cells #[.int .u32 a2] 22 (0, 0))) := ⟨bkV BK5⟩
             have n3_ : Aside0 (((((((((w198.setCell ⟨gb19, 0, none⟩ (.int .u32 t7)).setCell ⟨gb19, 1, none⟩ (.int .i64 t8)).setCell ⟨gb19, 2, none⟩ (.slice Ao202 t9.length co202)).setCell ⟨gb19, 3, none⟩ (.slice Ao203 t12.length co203)).setCell ⟨gb19, 4, none⟩ (.int .u32 t15)).setCell ⟨gb19, 5, none⟩ (.int .u32 t16)).setCell ⟨gb19, 6, none⟩ (.int .i64 t17)).setCell ⟨gb19, 7, none⟩ (.int .u32 t18)).heap[gb2]? = some (.cells #[.int .u32 a1_0, .int .i64 a1_1, .slice A1_2 l1_2.length c1_2, .slice A1_3 l1_3.length c1_3, .int .u32 a1_4, .int .u32 a1_5, .int .i64 a1_6, .int .u32 a1_7] 30 (0, 0))) := ⟨by (with_reducible repeat (first | refine blk_drewN ?_ _ | refine blk_drew ?_ | refine blk_alloc ?_ _)); refine blk_far ?_ NB2_19.out _; (with_reducible repeat (first | refine blk_drewN ?_ _ | refine blk_drew ?_ | refine blk_alloc ?_ _)); refine blk_far ?_ NB2_19.out _; (with_reducible repeat (first | refine blk_drewN ?_ _ | refine blk_drew ?_ | refine blk_alloc ?_ _)); refine blk_far ?_ NB2_19.out _; (with_reducible repeat (first | refine blk_drewN ?_ _ | refine blk_drew ?_ | refine blk_alloc ?_ _)); refine blk_far ?_ NB2_19.out _; (with_reducible repeat (first | refine blk_drewN ?_ _ | refine blk_drew ?_ | refine blk_alloc ?_ _)); refine blk_far ?_ NB2_19.out _; (with_reducible repeat (first | refine blk_drewN ?_ _ | refine blk_drew ?_ | refine blk_alloc ?_ _)); refine blk_far ?_ NB2_19.out _; (with_reducible repeat (first | refine blk_drewN ?_ _ | refine blk_drew ?_ | refine blk_alloc ?_ _)); refine blk_far ?_ NB2_19.out _; (with_reducible repeat (first | refine blk_drewN ?_ _ | refine blk_drew ?_ | refine blk_alloc ?_ _)); refine blk_far ?_ NB2_19.out _; (with_reducible repeat (first | refine blk_drewN ?_ _ | refine blk_drew ?_ | refine blk_alloc ?_ _)); exact BK2.out⟩
             have n4_ : Aside0 (((((((((w198.setCell ⟨gb19, 0, none⟩ (.int .u32 t7)).setCell ⟨gb19, 1, none⟩ (.int .i64 t8)).setCell ⟨gb19, 2, none⟩ (.slice Ao202 t9.length co202)).setCell ⟨gb19, 3, none⟩ (.slice Ao203 t12.length co203)).setCell ⟨gb19, 4, none⟩ (.int .u32 t15)).setCell ⟨gb19, 5, none⟩ (.int .u32 t16)).setCell ⟨gb19, 6, none⟩ (.int .i64 t17)).setCell ⟨gb19, 7, none⟩ (.int .u32 t18)).heap[gb19]? = some (.cells #[.int .u32 t7, .int .i64 t8, .slice Ao202 t9.length co202, .slice Ao203 t12.length co203, .int .u32 t15, .int .u32 t16, .int .i64 t17, .int .u32 t18] 30 (0, 0))) := ⟨by (with_reducible repeat (first | refine blk_drewN ?_ _ | refine blk_drew ?_ | refine blk_alloc ?_ _)); refine blk_put (cs := #[.int .u32 t7, .int .i64 t8, .slice Ao202 t9.length co202, .slice Ao203 t12.length co203, .int .u32 t15, .int .u32 t16, .int .i64 t17, .int .u32 0]) ?_ 7 _ rfl; (with_reducible repeat (first | refine blk_drewN ?_ _ | refine blk_drew ?_ | refine blk_alloc ?_ _)); refine blk_put (cs := #[.int .u32 t7, .int .i64 t8, .slice Ao202 t9.length co202, .slice Ao203 t12.length co203, .int .u32 t15, .int .u32 t16, .int .i64 0, .int .u32 0]) ?_ 6 _ rfl; (with_reducible repeat (first | refine blk_drewN ?_ _ | refine blk_drew ?_ | refine blk_alloc ?_ _)); refine blk_put (cs := #[.int .u32 t7, .int .i64 t8, .slice Ao202 t9.length co202, .slice Ao203 t12.length co203, .int .u32 t15, .int .u32 0, .int .i64 0, .int .u32 0]) ?_ 5 _ rfl; (with_reducible repeat (first | refine blk_drewN ?_ _ | refine blk_drew ?_ | refine blk_alloc ?_ _)); refine blk_put (cs := #[.int .u32 t7, .int .i64 t8, .slice Ao202 t9.length co202, .slice Ao203 t12.length co203, .int .u32 0, .int .u32 0, .int .i64 0, .int .u32 0]) ?_ 4 _ rfl; (with_reducible repeat (first | refine blk_drewN ?_ _ | refine blk_drew ?_ | refine blk_alloc ?_ _)); refine blk_put (cs := #[.int .u32 t7, .int .i64 t8, .slice Ao202 t9.length co202, .slice none 0 0, .int .u32 0, .int .u32 0, .int .i64 0, .int .u32 0]) ?_ 3 _ rfl; (with_reducible repeat (first | refine blk_drewN ?_ _ | refine blk_drew ?_ | refine blk_alloc ?_ _)); refine blk_put (cs := #[.int .u32 t7, .int .i64 t8, .slice none 0 0, .slice none 0 0, .int .u32 0, .int .u32 0, .int .i64 0, .int .u32 0]) ?_ 2 _ rfl; (with_reducible repeat (first | refine blk_drewN ?_ _ | refine blk_drew ?_ | refine blk_alloc ?_ _)); refine blk_put (cs := #[.int .u32 t7, .int .i64 0, .slice none 0 0, .slice none 0 0, .int .u32 0, .int .u32 0, .int .i64 0, .int .u32 0]) ?_ 1 _ rfl; (with_reducible repeat (first | refine blk_drewN ?_ _ | refine blk_drew ?_ | refine blk_alloc ?_ _)); refine blk_put (cs := #[.int .u32 0, .int .i64 0, .slice none 0 0, .slice none 0 0, .int .u32 0, .int .u32 0, .int .i64 0, .int .u32 0]) ?_ 0 _ rfl; (with_reducible repeat (first | refine blk_drewN ?_ _ | refine blk_drew ?_ | refine blk_alloc ?_ _)); exact BK19.out⟩
             have n5_ : Aside0 (Below w.heap.size w ((((((((w198.setCell ⟨gb19, 0, none⟩ (.int .u32 t7)).setCell ⟨gb19, 1, none⟩ (.int .i64 t8)).setCell ⟨gb19, 2, none⟩ (.slice Ao202 t9.length co202)).setCell ⟨gb19, 3, none⟩ (.slice Ao203 t12.length co203)).setCell ⟨gb19, 4, none⟩ (.int .u32 t15)).setCell ⟨gb19, 5, none⟩ (.int .u32 t16)).setCell ⟨gb19, 6, none⟩ (.int .i64 t17)).setCell ⟨gb19, 7, none⟩ (.int .u32 t18))) := ⟨hbW HB⟩
             (try clear HO11)
             (try clear HO14)
             (try clear BK1)
             (try clear BK5)
             (try clear BK2)
             (try clear BK19)
             (try clear HB)
             generalize ((((((((w198.setCell ⟨gb19, 0, none⟩ (.int .u32 t7)).setCell ⟨gb19, 1, none⟩ (.int .i64 t8)).setCell ⟨gb19, 2, none⟩ (.slice Ao202 t9.length co202)).setCell ⟨gb19, 3, none⟩ (.slice Ao203 t12.length co203)).setCell ⟨gb19, 4, none⟩ (.int .u32 t15)).setCell ⟨gb19, 5, none⟩ (.int .u32 t16)).setCell ⟨gb19, 6, none⟩ (.int .i64 t17)).setCell ⟨gb19, 7, none⟩ (.int .u32 t18)) = w205 at n99_ n0_ n1_ n2_ n3_ n4_ n5_ ⊢
             have HO11 := n0_
             have HO14 := n1_
             have BK1 := n2_
             have BK5 := n99_
             have BK2 := n3_
             have BK19 := n4_
             have HB := n5_
             clear n0_ n1_ n2_ n3_ n4_ n5_ n99_
             replace HO11 := Aside0.mk (Kd.R_drew HO11.out)
             replace HO14 := Aside0.mk (Kd.R_drew HO14.out)
             replace BK1 := Aside0.mk (blk_drew BK1.out); replace BK5 := Aside0.mk (blk_drew BK5.out)
             replace BK2 := Aside0.mk (blk_drew BK2.out)
             replace BK19 := Aside0.mk (blk_drew BK19.out)
             replace HB := Aside0.mk (below_drew1 HB.out)
             refine start_ (n := 18) (S := fun w' => w'.cell? ⟨gb19, 0, none⟩ = some (.int .u32 t7) ∧ w'.cell? ⟨gb19, 1, none⟩ = some (.int .i64 t8) ∧ w'.cell? ⟨gb19, 2, none⟩ = some (.slice Ao202 t9.length co202) ∧ w'.cell? ⟨gb19, 3, none⟩ = some (.slice Ao203 t12.length co203) ∧ w'.cell? ⟨gb19, 4, none⟩ = some (.int .u32 t15) ∧ w'.cell? ⟨gb19, 5, none⟩ = some (.int .u32 t16) ∧ w'.cell? ⟨gb19, 6, none⟩ = some (.int .i64 t17) ∧ w'.cell? ⟨gb19, 7, none⟩ = some (.int .u32 t18) ∧ w'.cell? ⟨gb2, 0, none⟩ = some (.int .u32 a1_0) ∧ w'.cell? ⟨gb2, 1, none⟩ = some (.int .i64 a1_1) ∧ w'.cell? ⟨gb2, 2, none⟩ = some (.slice A1_2 l1_2.length c1_2) ∧ w'.cell? ⟨gb2, 3, none⟩ = some (.slice A1_3 l1_3.length c1_3) ∧ w'.cell? ⟨gb2, 4, none⟩ = some (.int .u32 a1_4) ∧ w'.cell? ⟨gb2, 5, none⟩ = some (.int .u32 a1_5) ∧ w'.cell? ⟨gb2, 6, none⟩ = some (.int .i64 a1_6) ∧ w'.cell? ⟨gb2, 7, none⟩ = some (.int .u32 a1_7)) (ds := []) #[false, false, false, false, false, false, false, false, false, false, false, false, false, false, false, false, false, false] (by kernel_rfl) rfl rfl (bk8 BK19 (bl8 BK2)) (fun hHeld => ?_); refine with_tabW q17z.tab22 q17z.bits22 (fun HT_ HW_ => ?_)
             generalize w205.drew = w206 at BK5 HO11 HO14 BK1 BK2 BK19 HB hHeld ⊢
             refine pure_ (i := 0) (N := some 107) (v := ?_) (a' := ?_) #[true, false, false, false, false, false, false, false, false, false, false, false, false, false, false, false, false, false] rfl rfl (any_of HT_.out (by kernel_rfl)) (fun _ _ _ h => h) (Or.inl ⟨by rfl, ?_⟩) ?_ ?_
             rotate_left
             ·
              intro w'
              go_simp
              with_reducible rfl
             rotate_left
             ·
              simp only [Act.put, List.setIfInBounds_toArray, List.set_cons_zero, List.set_cons_succ, i64_w, i32_w, IntKind.wrap_u32]
              rfl
             refine pure_ (i := 1) (N := some 108) (v := ?_) (a' := ?_) #[true, true, false, false, false, false, false, false, false, false, false, false, false, false, false, false, false, false] rfl rfl (any_of HT_.out (by kernel_rfl)) (fun _ _ _ h => h) (Or.inl ⟨by rfl, ?_⟩) ?_ ?_
             rotate_left
             ·
              intro w'
              go_simp
              with_reducible rfl
             rotate_left
             ·
              simp only [Act.put, List.setIfInBounds_toArray, List.set_cons_zero, List.set_cons_succ, i64_w, i32_w, IntKind.wrap_u32]
              rfl
             refine pure_ (i := 4) (N := some 111) (v := ?_) (a' := ?_) #[true, true, false, false, true, false, false, false, false, false, false, false, false, false, false, false, false, false] rfl rfl (any_of HT_.out (by kernel_rfl)) (fun _ _ _ h => h) (Or.inl ⟨by rfl, ?_⟩) ?_ ?_
             rotate_left
             ·
              intro w'
              go_simp
              with_reducible rfl
             rotate_left
             ·
              simp only [Act.put, List.setIfInBounds_toArray, List.set_cons_zero, List.set_cons_succ, i64_w, i32_w, IntKind.wrap_u32]
              rfl
             refine pure_ (i := 5) (N := some 112) (v := ?_) (a' := ?_) #[true, true, false, false, true, true, false, false, false, false, false, false, false, false, false, false, false, false] rfl rfl (any_of HT_.out (by kernel_rfl)) (fun _ _ _ h => h) (Or.inl ⟨by rfl, ?_⟩) ?_ ?_
             rotate_left
             ·
              intro w'
              go_simp
              with_reducible rfl
             rotate_left
             ·
              simp only [Act.put, List.setIfInBounds_toArray, List.set_cons_zero, List.set_cons_succ, i64_w, i32_w, IntKind.wrap_u32]
              rfl
             refine take_ (i := 2) (N := some 109) (v := ?_) (a' := ?_) #[true, true, true, false, true, true, false, false, false, false, false, false, false, false, false, false, false, false] rfl rfl (take_ofW HT_.out HW_.out (by kernel_rfl)) (fun _ _ _ h => h) (Or.inl ⟨by rfl, ?_⟩) hHeld ?_ ?_
             rotate_left
             ·
              rintro w' ⟨s0, s1, s2, s3, s4, s5, s6, s7, s8, s9, s10, s11, s12, s13, s14, s15⟩
              go_simp
              with_reducible rfl
             rotate_left
             ·
              simp only [Act.put, List.setIfInBounds_toArray, List.set_cons_zero, List.set_cons_succ, i64_w, i32_w, IntKind.wrap_u32]
              rfl
             refine take_ (i := 6) (N := some 113) (v := ?_) (a' := ?_) #[true, true, true, false, true, true, true, false, false, false, false, false, false, false, false, false, false, false] rfl rfl (take_ofW HT_.out HW_.out (by kernel_rfl)) (fun _ _ _ h => h) (Or.inl ⟨by rfl, ?_⟩) hHeld ?_ ?_
             rotate_left
             ·
              rintro w' ⟨s0, s1, s2, s3, s4, s5, s6, s7, s8, s9, s10, s11, s12, s13, s14, s15⟩
              go_simp
              with_reducible rfl
             rotate_left
             ·
              simp only [Act.put, List.setIfInBounds_toArray, List.set_cons_zero, List.set_cons_succ, i64_w, i32_w, IntKind.wrap_u32]
              rfl
             refine one_ (i := 3) (N := some 110) #[true, true, true, true, true, true, true, false, false, false, false, false, false, false, false, false, false, false] rfl rfl (one_of HT_.out (by kernel_rfl)) (by decide) (fun K hK => ?_)
             refine goesC_ #[.pointer (some ⟨gb5, 0, none⟩)] Try.func19 (by kernel_rfl) rfl #[.slice Ao203 t12.length co203, .pointer (some ⟨gb5, 0, none⟩)] (by rfl) rfl rfl (by rfl) (by simp only [List.map_toArray, List.map_cons, List.map_nil, List.append_toArray, List.cons_append, List.nil_append]; rfl) ?_
             with_reducible refine (acts_has.calls gb5 _ _ t12 a2 t35 _ (bkW BK5) ?side1 ?side2 A171.out).mono ?_
             (case side1 => repeat (first | exact (Kd.R_reads' HO14.out).2.2 | (with_reducible refine Kd.C_alloc ?_ _) | (with_reducible refine Kd.C_drewN ?_ _) | (with_reducible refine Kd.C_drew ?_)))
             (case side2 => exact (Kd.R_reads' HO14.out).2.1)
             rintro e w207 ⟨rfl, hb⟩
             refine ⟨_, rfl, ?_⟩
             replace HO11 := Aside0.mk (Kd.R_below (rW HO11) hb)
             replace HO14 := Aside0.mk (Kd.R_below (rW HO14) hb)
             replace BK1 := bkB BK1 hb; replace BK5 := bkB BK5 hb
             replace BK2 := bkB BK2 hb
             replace BK19 := bkB BK19 hb
             replace HB := hbS HB hb
             (try clear hb)
             refine hK.out _ _ (bk8 BK19 (bl8 BK2)) (fun hHeld => ?_)
             clear hK K
             refine norm_ (a' := ?_) ?_ ?_
             rotate_left
             ·
              show Act.put _ (some 110) _ = _
              simp only [Act.put, List.setIfInBounds_toArray, List.set_cons_zero, List.set_cons_succ, i64_w, i32_w, IntKind.wrap_u32]
              rfl
             refine one_ (i := 7) (N := some 114) #[true, true, true, true, true, true, true, true, false, false, false, false, false, false, false, false, false, false] rfl rfl (one_of HT_.out (by kernel_rfl)) (by decide) (fun K hK => ?_)
             refine goesC_ #[.pointer (some ⟨gb5, 0, none⟩)] Try.func19 (by kernel_rfl) rfl #[.slice A1_3 l1_3.length c1_3, .pointer (some ⟨gb5, 0, none⟩)] (by rfl) rfl rfl (by rfl) (by simp only [List.map_toArray, List.map_cons, List.map_nil, List.append_toArray, List.cons_append, List.nil_append]; rfl) ?_
             with_reducible refine (acts_has.calls gb5 _ _ l1_3 a2 false _ (bkW BK5) ?side1 ?side2 A172.out).mono ?_
             (case side1 => repeat (first | exact (Kd.C_below HR1_3.out HB.out) | (with_reducible refine Kd.C_alloc ?_ _) | (with_reducible refine Kd.C_drewN ?_ _) | (with_reducible refine Kd.C_drew ?_)))
             (case side2 => exact HC1_3.out)
             rintro e w208 ⟨rfl, hb⟩
             refine ⟨_, rfl, ?_⟩
             replace HO11 := Aside0.mk (Kd.R_below (rW HO11) hb)
             replace HO14 := Aside0.mk (Kd.R_below (rW HO14) hb)
             replace BK1 := bkB BK1 hb; replace BK5 := bkB BK5 hb
             replace BK2 := bkB BK2 hb
             replace BK19 := bkB BK19 hb
             replace HB := hbS HB hb
             (try clear hb)
             refine hK.out _ _ (bk8 BK19 (bl8 BK2)) (fun hHeld => ?_)
             clear hK K
             refine norm_ (a' := ?_) ?_ ?_
             rotate_left
             ·
              show Act.put _ (some 114) _ = _
              simp only [Act.put, List.setIfInBounds_toArray, List.set_cons_zero, List.set_cons_succ, i64_w, i32_w, IntKind.wrap_u32]
              rfl
             refine pure_ (i := 8) (N := some 115) (v := ?_) (a' := ?_) #[true, true, true, true, true, true, true, true, true, false, false, false, false, false, false, false, false, false] rfl rfl (any_of HT_.out (by kernel_rfl)) (fun _ _ _ h => h) (Or.inl ⟨by rfl, ?_⟩) ?_ ?_
             rotate_left
             ·
              intro w'
              go_simp
              with_reducible rfl
             rotate_left
             ·
              simp only [Act.put, List.setIfInBounds_toArray, List.set_cons_zero, List.set_cons_succ, i64_w, i32_w, IntKind.wrap_u32]
              rfl
             refine pure_ (i := 9) (N := some 116) (v := undef) (a' := ?_) #[true, true, true, true, true, true, true, true, true, true, false, false, false, false, false, false, false, false] rfl rfl (any_of HT_.out (by kernel_rfl)) (fun _ _ _ h => h) (Or.inr ⟨by rfl, rfl⟩) ?_ ?_
             rotate_left
             ·
              simp only [Act.put, List.setIfInBounds_toArray, List.set_cons_zero, List.set_cons_succ, i64_w, i32_w, IntKind.wrap_u32]
              rfl
             refine pure_ (i := 10) (N := some 117) (v := undef) (a' := ?_) #[true, true, true, true, true, true, true, true, true, true, true, false, false, false, false, false, false, false] rfl rfl (any_of HT_.out (by kernel_rfl)) (fun _ _ _ h => h) (Or.inr ⟨by rfl, rfl⟩) ?_ ?_
             rotate_left
             ·
              simp only [Act.put, List.setIfInBounds_toArray, List.set_cons_zero, List.set_cons_succ, i64_w, i32_w, IntKind.wrap_u32]
              rfl
             refine pure_ (i := 11) (N := some 118) (v := undef) (a' := ?_) #[true, true, true, true, true, true, true, true, true, true, true, true, false, false, false, false, false, false] rfl rfl (any_of HT_.out (by kernel_rfl)) (fun _ _ _ h => h) (Or.inr ⟨by rfl, rfl⟩) ?_ ?_
             rotate_left
             ·
              simp only [Act.put, List.setIfInBounds_toArray, List.set_cons_zero, List.set_cons_succ, i64_w, i32_w, IntKind.wrap_u32]
              rfl
             refine pure_ (i := 12) (N := some 119) (v := undef) (a' := ?_) #[true, true, true, true, true, true, true, true, true, true, true, true, true, false, false, false, false, false] rfl rfl (any_of HT_.out (by kernel_rfl)) (fun _ _ _ h => h) (Or.inr ⟨by rfl, rfl⟩) ?_ ?_
             rotate_left
             ·
              simp only [Act.put, List.setIfInBounds_toArray, List.set_cons_zero, List.set_cons_succ, i64_w, i32_w, IntKind.wrap_u32]
              rfl
             refine pure_ (i := 13) (N := some 120) (v := undef) (a' := ?_) #[true, true, true, true, true, true, true, true, true, true, true, true, true, true, false, false, false, false] rfl rfl (any_of HT_.out (by kernel_rfl)) (fun _ _ _ h => h) (Or.inr ⟨by rfl, rfl⟩) ?_ ?_
             rotate_left
             ·
              simp only [Act.put, List.setIfInBounds_toArray, List.set_cons_zero, List.set_cons_succ, i64_w, i32_w, IntKind.wrap_u32]
              rfl
             refine pure_ (i := 14) (N := some 121) (v := undef) (a' := ?_) #[true, true, true, true, true, true, true, true, true, true, true, true, true, true, true, false, false, false] rfl rfl (any_of HT_.out (by kernel_rfl)) (fun _ _ _ h => h) (Or.inr ⟨by rfl, rfl⟩) ?_ ?_
             rotate_left
             ·
              simp only [Act.put, List.setIfInBounds_toArray, List.set_cons_zero, List.set_cons_succ, i64_w, i32_w, IntKind.wrap_u32]
              rfl
             refine pure_ (i := 15) (N := some 122) (v := ?_) (a' := ?_) #[true, true, true, true, true, true, true, true, true, true, true, true, true, true, true, true, false, false] rfl rfl (any_of HT_.out (by kernel_rfl)) (fun _ _ _ h => h) (Or.inl ⟨by rfl, ?_⟩) ?_ ?_
             rotate_left
             ·
              intro w'
              go_simp
              with_reducible rfl
             rotate_left
             ·
              simp only [Act.put, List.setIfInBounds_toArray, List.set_cons_zero, List.set_cons_succ, i64_w, i32_w, IntKind.wrap_u32]
              rfl
             refine pure_ (i := 16) (N := some 123) (v := ?_) (a' := ?_) #[true, true, true, true, true, true, true, true, true, true, true, true, true, true, true, true, true, false] rfl rfl (any_of HT_.out (by kernel_rfl)) (fun _ _ _ h => h) (Or.inl ⟨by rfl, ?_⟩) ?_ ?_
             rotate_left
             ·
              intro w'
              go_simp
              with_reducible rfl
             rotate_left
             ·
              simp only [Act.put, List.setIfInBounds_toArray, List.set_cons_zero, List.set_cons_succ, i64_w, i32_w, IntKind.wrap_u32]
              rfl
             refine pure_ (i := 17) (N := some 6) (v := ?_) (a' := ?_) #[true, true, true, true, true, true, true, true, true, true, true, true, true, true, true, true, true, true] rfl rfl (any_of HT_.out (by kernel_rfl)) (fun _ _ _ h => h) (Or.inl ⟨by rfl, ?_⟩) ?_ ?_
             rotate_left
             ·
              intro w'
              go_simp
              with_reducible rfl
             rotate_left
             ·
              simp only [Act.put, List.setIfInBounds_toArray, List.set_cons_zero, List.set_cons_succ, i64_w, i32_w, IntKind.wrap_u32]
              rfl
             refine done_ (done_of HT_.out (by kernel_rfl)) ?_
             try go_wp2
             go_ret
             exact ⟨by first | rfl | (simp [errW_none, errW_some] <;> rfl) | (simp [*, errW_none, errW_some] <;> rfl), hbW HB⟩
 ·
  replace c5 := Bool.eq_false_iff.mpr c5
  subst c5
  have H1 : (some false) = some r := by rw [if_neg (show ¬ (false = true) by decide)] at H; exact H
  clear H
  have H := H1
  clear H1
  obtain rfl := Option.some.inj H
  go_enter Try.func4, Try.ntmps4
  go_wp2_with (first | ((with_reducible refine gate_dst (N := 3) rfl ?_); (try (refine gate_guard (by rfl) ?_; dsimp only)); refine box_event ?hg (N := 3) ?hd (cs := #[.int .i64 a0_0, .int .u32 a0_1, .slice A0_2 l0_2.length c0_2, .slice A0_3 l0_3.length c0_3]) (t := 26) ?hr ?_; (case hd => rfl); (case hg => rfl); (case hr => first | (go_simp; done) | (go_simp; rfl)); intro gb1 hg w209 hbox hb; have BK1 := Aside0.mk (hbox); have GW1 := gwS hg HB; have GE1 := gwS hg HB; replace HB := hbS HB hb; clear hb hbox hg) | ((with_reducible refine gate_dst (N := 4) rfl ?_); (try (refine gate_guard (by rfl) ?_; dsimp only)); refine box_event ?hg (N := 4) ?hd (cs := #[.int .u32 a1_0, .int .i64 a1_1, .slice A1_2 l1_2.length c1_2, .slice A1_3 l1_3.length c1_3, .int .u32 a1_4, .int .u32 a1_5, .int .i64 a1_6, .int .u32 a1_7]) (t := 30) ?hr ?_; (case hd => rfl); (case hg => rfl); (case hr => first | (go_simp; done) | (go_simp; rfl)); intro gb2 hg w210 hbox hb; have BK2 := Aside0.mk (hbox); have GW2 := gwS hg HB; have GE2 := gwS hg HB; have NB1_2 := nbL hg BK1; have NB2_1 := nbG hg BK1; replace BK1 := bkB BK1 hb; replace HB := hbS HB hb; clear hb hbox hg) | ((with_reducible refine gate_dst (N := 5) rfl ?_); (try (refine gate_guard (by rfl) ?_; dsimp only)); refine box_event ?hg (N := 5) ?hd (cs := #[.int .u32 a2]) (t := 22) ?hr ?_; (case hd => rfl); (case hg => rfl); (case hr => first | (go_simp; done) | (go_simp; rfl)); intro gb5 hg w5_ hbox hb; have BK5 := Aside0.mk (hbox); have NB1_5 := nbL hg BK1; have NB5_1 := nbG hg BK1; have NB2_5 := nbL hg BK2; have NB5_2 := nbG hg BK2; replace BK1 := bkB BK1 hb; replace BK2 := bkB BK2 hb; replace HB := hbS HB hb; clear hb hbox hg) | ((with_reducible refine gate_callee (f := 8) rfl ?_); refine goesL_ (some 9) rfl rfl Try.func8 (by kernel_rfl) rfl #[] rfl (by (try simp only [List.map_toArray, List.map_cons, List.map_nil]); first | done | rfl | (simp only [List.length_drop, List.length_take]; rfl)) ?_; (with_reducible refine (q13z.calls k  false _ A4.out).mono ?_); rintro e w211 ⟨rfl, hb⟩; refine ⟨_, rfl, ?_⟩; replace BK1 := bkB BK1 hb; replace BK5 := bkB BK5 hb; replace BK2 := bkB BK2 hb; replace HB := hbS HB hb; (try clear hb)))
  go_ret
  exact ⟨by first | rfl | (simp [errW_none, errW_some] <;> rfl) | (simp [*, errW_none, errW_some] <;> rfl), hbW HB⟩

end Go.Proofs.Ytgelpccjdndfoaa.P
namespace Go.Proofs.Ytgelpccjdndfoaa.P
open Go.RowKit Go.Proofs.YtgelpccjdndfoaaW.PrintWords Go.Proofs.YtgelpccjdndfoaaW.PrintLast Go.Proofs.YtgelpccjdndfoaaW.PrintMore Go.ChangeShapes Go.WideShapes
section
variable {H : Type} {enc : TypeId × Value → H} {P : Program} {w : World} {base : Nat} {spare : Nat → Bool} {held : Bool}
/-- Whatever reads as data of type T is a value of kind d. -/
def Opens (enc : TypeId × Value → H) (P : Program) (w : World) (base : Nat) (spare : Nat → Bool) (held : Bool) {α : Type} (d : Kd α) (T : TypeId) (good : α → Prop) : Prop :=
  ∀ fuel cs y, DataW.trod enc P w base spare held fuel T cs = some y → ∃ x, d.K w x cs ∧ good x
theorem opens_int {k : IntKind} {T : TypeId} (ht : P.underlying T = some (.int k)) : Opens enc P w base spare held (Kd.int k) T (fun n => (Lit.int k n).wf = true) := by
  intro fuel cs y h
  obtain ⟨n, rfl, _, hw⟩ := DataW.trod_int ht h
  exact ⟨n, rfl, hw⟩
theorem opens_bool {T : TypeId} (ht : P.underlying T = some .bool) : Opens enc P w base spare held Kd.bool T (fun _ => True) := by
  intro fuel cs y h
  cases fuel with
  | zero => simp [DataW.trod] at h
  | succ n =>
    unfold DataW.trod at h
    rw [ht] at h
    split at h
    all_goals first | exact ⟨_, rfl, trivial⟩ | (exfalso; simp_all; done)
theorem pick_list {α : Type} {Q : Nat → α → Prop} : ∀ n : Nat, (∀ i, i < n → ∃ x, Q i x) → ∃ xs : List α, xs.length = n ∧ ∀ i x, xs[i]? = some x → Q i x
  | 0, _ => ⟨[], rfl, fun i x h => by simp at h⟩
  | n + 1, h => by
    obtain ⟨xs, hl, hx⟩ := pick_list n (fun i hi => h i (by omega))
    obtain ⟨x, hxn⟩ := h n (by omega)
    refine ⟨xs ++ [x], by simp [hl], fun i z hz => ?_⟩
    by_cases hi : i < n
    · rw [List.getElem?_append_left (by omega)] at hz
      exact hx i z hz
    · rw [List.getElem?_append_right (by omega)] at hz
      have hi0 : i - xs.length = 0 := by
        have := (List.getElem?_eq_some_iff.1 hz).1
        simp at this
        omega
      rw [hi0] at hz
      have : x = z := by simpa using hz
      subst this
      have : i = n := by omega
      subst this
      exact hxn
theorem opens_slice {α : Type} {d : Kd α} {T e : TypeId} {good : α → Prop} (ht : P.underlying T = some (.slice e)) (hce : P.cellsOf e = d.sz) (ho : Opens enc P w base spare held d e good) :
    Opens enc P w base spare held (Kd.slice e d) T (fun xs => xs.length ≤ 9223372036854775807 ∧ ∀ x ∈ xs, good x) := by
  intro fuel cs y h
  rcases Go.Deep.open_slice ht h with ⟨rfl, _⟩ | ⟨a, len, cap, m, n, D, Pl, rfl, hb, hl, hm, hmm, _, hx⟩
  · exact ⟨[], ⟨none, 0, rfl, Nat.le_refl _, ⟨rfl, by simp, fun h => absurd h (by simp)⟩⟩, by simp, fun x hx => (List.not_mem_nil hx).elim⟩
  · have hlm : len ≤ m := by rw [hmm]; split <;> omega
    have each : ∀ i, i < len → ∃ q : α × List Value, w.cells? base (a.add (i * d.sz)) d.sz = some q.2 ∧ d.K w q.1 q.2 ∧ good q.1 := fun i hi => by
      obtain ⟨cs', h1, h2⟩ := hx i (by omega)
      obtain ⟨x, hk, hg⟩ := ho _ _ _ h2
      rw [hce] at h1
      exact ⟨(x, cs'), h1, hk, hg⟩
    obtain ⟨qs, hql, hq⟩ := pick_list len each
    refine ⟨qs.map (·.1), ⟨some a, cap, by simp [hql], by simp [hql]; omega, ?_⟩, by simp only [List.length_map, hql]; unfold maxLen at hm; omega, ?_⟩
    · refine ⟨rfl, by simp only [List.length_map, hql]; unfold maxLen at hm; omega, fun _ => ⟨a, rfl, fun j p hp => ?_⟩⟩
      rw [List.getElem?_map] at hp
      obtain ⟨q, hqj, rfl⟩ := Option.map_eq_some_iff.1 hp
      obtain ⟨h1, h2, _⟩ := hq j q hqj
      obtain ⟨_, h4, h5⟩ := World.cells?_some h1
      refine ⟨q.2, h4, h2, fun i u hu => ?_⟩
      have hi : i < d.sz := by have := (List.getElem?_eq_some_iff.1 hu).1; omega
      have h6 := h5 i hi
      rw [add_add] at h6
      rw [h6, hu]
    · intro x hx'
      obtain ⟨q, hq', rfl⟩ := List.mem_map.1 hx'
      obtain ⟨i, hi⟩ := List.getElem?_of_mem hq'
      exact (hq i q hi).2.2
end
end Go.Proofs.Ytgelpccjdndfoaa.P
namespace Go.Proofs.Ytgelpccjdndfoaa.P
open Go.RowKit Go.Proofs.YtgelpccjdndfoaaW.PrintWords Go.Proofs.YtgelpccjdndfoaaW.PrintMore Go.ChangeShapes Go.WideShapes
def good50 (x : S50) : Prop := (Lit.int .u32 x.f0).wf = true ∧ (Lit.int .u32 x.f1).wf = true
theorem opens_T50 {H : Type} {enc : TypeId × Value → H} {w : World} {base : Nat} {spare : Nat → Bool} {held : Bool} : Opens enc Try.prog w base spare held k50 50 good50 := by
  intro fuel cs y h
  obtain ⟨xs, n, _, _, hlen, hxl, hf⟩ := DataW.trod_struct Try.underlying50 h
  have hcs : cs.length = 2 := hlen.trans (by kernel_rfl)
  have h0 := hf 0 _ rfl
  obtain ⟨y0, e0⟩ : ∃ y_, xs[0]? = some y_ := ⟨_, List.getElem?_eq_getElem (by rw [hxl]; decide)⟩
  rw [e0] at h0
  have q0 : DataW.trod enc Try.prog w base spare held n 22 ((cs.drop 0).take 1) = some y0 := (congrArg (fun z => DataW.trod enc Try.prog w base spare held n 22 ((cs.drop 0).take z)) (show 1 = Try.prog.cellsOf 22 from by kernel_rfl)).trans h0
  obtain ⟨x0, k0_, g0⟩ := (opens_int Try.underlying22) _ _ _ q0
  have h1 := hf 1 _ rfl
  obtain ⟨y1, e1⟩ : ∃ y_, xs[1]? = some y_ := ⟨_, List.getElem?_eq_getElem (by rw [hxl]; decide)⟩
  rw [e1] at h1
  have q1 : DataW.trod enc Try.prog w base spare held n 22 ((cs.drop 1).take 1) = some y1 := (congrArg (fun z => DataW.trod enc Try.prog w base spare held n 22 ((cs.drop 1).take z)) (show 1 = Try.prog.cellsOf 22 from by kernel_rfl)).trans h1
  obtain ⟨x1, k1_, g1⟩ := (opens_int Try.underlying22) _ _ _ q1
  have s0 : cs.drop 0 = (cs.drop 0).take 1 ++ cs.drop 1 := by have e_ := (List.take_append_drop 1 (cs.drop 0)).symm; rwa [List.drop_drop] at e_
  have s1 : cs.drop 1 = (cs.drop 1).take 1 := (List.take_of_length_le (by rw [List.length_drop, hcs]; decide)).symm
  exact ⟨⟨x0, x1⟩, ⟨(cs.drop 0).take 1, cs.drop 1, (show cs = _ from s0), k0_, (by rw [s1]; exact k1_)⟩, g0, g1⟩
def good53 (x : S53) : Prop := True ∧ (x.f1.length ≤ 9223372036854775807 ∧ ∀ z_ ∈ x.f1, good50 z_)
theorem opens_T53 {H : Type} {enc : TypeId × Value → H} {w : World} {base : Nat} {spare : Nat → Bool} {held : Bool} : Opens enc Try.prog w base spare held k53 53 good53 := by
  intro fuel cs y h
  obtain ⟨xs, n, _, _, hlen, hxl, hf⟩ := DataW.trod_struct Try.underlying53 h
  have hcs : cs.length = 2 := hlen.trans (by kernel_rfl)
  have h0 := hf 0 _ rfl
  obtain ⟨y0, e0⟩ : ∃ y_, xs[0]? = some y_ := ⟨_, List.getElem?_eq_getElem (by rw [hxl]; decide)⟩
  rw [e0] at h0
  have q0 : DataW.trod enc Try.prog w base spare held n 4 ((cs.drop 0).take 1) = some y0 := (congrArg (fun z => DataW.trod enc Try.prog w base spare held n 4 ((cs.drop 0).take z)) (show 1 = Try.prog.cellsOf 4 from by kernel_rfl)).trans h0
  obtain ⟨x0, k0_, g0⟩ := (opens_bool Try.underlying4) _ _ _ q0
  have h1 := hf 1 _ rfl
  obtain ⟨y1, e1⟩ : ∃ y_, xs[1]? = some y_ := ⟨_, List.getElem?_eq_getElem (by rw [hxl]; decide)⟩
  rw [e1] at h1
  have q1 : DataW.trod enc Try.prog w base spare held n 51 ((cs.drop 1).take 1) = some y1 := (congrArg (fun z => DataW.trod enc Try.prog w base spare held n 51 ((cs.drop 1).take z)) (show 1 = Try.prog.cellsOf 51 from by kernel_rfl)).trans h1
  obtain ⟨x1, k1_, g1⟩ := (opens_slice Try.underlying51 (by kernel_rfl) opens_T50) _ _ _ q1
  have s0 : cs.drop 0 = (cs.drop 0).take 1 ++ cs.drop 1 := by have e_ := (List.take_append_drop 1 (cs.drop 0)).symm; rwa [List.drop_drop] at e_
  have s1 : cs.drop 1 = (cs.drop 1).take 1 := (List.take_of_length_le (by rw [List.length_drop, hcs]; decide)).symm
  exact ⟨⟨x0, x1⟩, ⟨(cs.drop 0).take 1, cs.drop 1, (show cs = _ from s0), k0_, (by rw [s1]; exact k1_)⟩, g0, g1⟩
def good26 (x : S26) : Prop := (Lit.int .i64 x.f0).wf = true ∧ (Lit.int .u32 x.f1).wf = true ∧ (x.f2.length ≤ 9223372036854775807 ∧ ∀ z_ ∈ x.f2, (Lit.int .u32 z_).wf = true) ∧ (x.f3.length ≤ 9223372036854775807 ∧ ∀ z_ ∈ x.f3, good53 z_)
theorem opens_T26 {H : Type} {enc : TypeId × Value → H} {w : World} {base : Nat} {spare : Nat → Bool} {held : Bool} : Opens enc Try.prog w base spare held k26 26 good26 := by
  intro fuel cs y h
  obtain ⟨xs, n, _, _, hlen, hxl, hf⟩ := DataW.trod_struct Try.underlying26 h
  have hcs : cs.length = 4 := hlen.trans (by kernel_rfl)
  have h0 := hf 0 _ rfl
  obtain ⟨y0, e0⟩ : ∃ y_, xs[0]? = some y_ := ⟨_, List.getElem?_eq_getElem (by rw [hxl]; decide)⟩
  rw [e0] at h0
  have q0 : DataW.trod enc Try.prog w base spare held n 3 ((cs.drop 0).take 1) = some y0 := (congrArg (fun z => DataW.trod enc Try.prog w base spare held n 3 ((cs.drop 0).take z)) (show 1 = Try.prog.cellsOf 3 from by kernel_rfl)).trans h0
  obtain ⟨x0, k0_, g0⟩ := (opens_int Try.underlying3) _ _ _ q0
  have h1 := hf 1 _ rfl
  obtain ⟨y1, e1⟩ : ∃ y_, xs[1]? = some y_ := ⟨_, List.getElem?_eq_getElem (by rw [hxl]; decide)⟩
  rw [e1] at h1
  have q1 : DataW.trod enc Try.prog w base spare held n 22 ((cs.drop 1).take 1) = some y1 := (congrArg (fun z => DataW.trod enc Try.prog w base spare held n 22 ((cs.drop 1).take z)) (show 1 = Try.prog.cellsOf 22 from by kernel_rfl)).trans h1
  obtain ⟨x1, k1_, g1⟩ := (opens_int Try.underlying22) _ _ _ q1
  have h2 := hf 2 _ rfl
  obtain ⟨y2, e2⟩ : ∃ y_, xs[2]? = some y_ := ⟨_, List.getElem?_eq_getElem (by rw [hxl]; decide)⟩
  rw [e2] at h2
  have q2 : DataW.trod enc Try.prog w base spare held n 23 ((cs.drop 2).take 1) = some y2 := (congrArg (fun z => DataW.trod enc Try.prog w base spare held n 23 ((cs.drop 2).take z)) (show 1 = Try.prog.cellsOf 23 from by kernel_rfl)).trans h2
  obtain ⟨x2, k2_, g2⟩ := (opens_slice Try.underlying23 (by kernel_rfl) (opens_int Try.underlying22)) _ _ _ q2
  have h3 := hf 3 _ rfl
  obtain ⟨y3, e3⟩ : ∃ y_, xs[3]? = some y_ := ⟨_, List.getElem?_eq_getElem (by rw [hxl]; decide)⟩
  rw [e3] at h3
  have q3 : DataW.trod enc Try.prog w base spare held n 24 ((cs.drop 3).take 1) = some y3 := (congrArg (fun z => DataW.trod enc Try.prog w base spare held n 24 ((cs.drop 3).take z)) (show 1 = Try.prog.cellsOf 24 from by kernel_rfl)).trans h3
  obtain ⟨x3, k3_, g3⟩ := (opens_slice Try.underlying24 (by kernel_rfl) opens_T53) _ _ _ q3
  have s0 : cs.drop 0 = (cs.drop 0).take 1 ++ cs.drop 1 := by have e_ := (List.take_append_drop 1 (cs.drop 0)).symm; rwa [List.drop_drop] at e_
  have s1 : cs.drop 1 = (cs.drop 1).take 1 ++ cs.drop 2 := by have e_ := (List.take_append_drop 1 (cs.drop 1)).symm; rwa [List.drop_drop] at e_
  have s2 : cs.drop 2 = (cs.drop 2).take 1 ++ cs.drop 3 := by have e_ := (List.take_append_drop 1 (cs.drop 2)).symm; rwa [List.drop_drop] at e_
  have s3 : cs.drop 3 = (cs.drop 3).take 1 := (List.take_of_length_le (by rw [List.length_drop, hcs]; decide)).symm
  exact ⟨⟨x0, x1, x2, x3⟩, ⟨(cs.drop 0).take 1, cs.drop 1, (show cs = _ from s0), k0_, ⟨(cs.drop 1).take 1, cs.drop 2, s1, k1_, ⟨(cs.drop 2).take 1, cs.drop 3, s2, k2_, (by rw [s3]; exact k3_)⟩⟩⟩, g0, g1, g2, g3⟩
def good28 (x : S28) : Prop := (Lit.int .u32 x.f0).wf = true ∧ (Lit.int .i64 x.f1).wf = true
theorem opens_T28 {H : Type} {enc : TypeId × Value → H} {w : World} {base : Nat} {spare : Nat → Bool} {held : Bool} : Opens enc Try.prog w base spare held k28 28 good28 := by
  intro fuel cs y h
  obtain ⟨xs, n, _, _, hlen, hxl, hf⟩ := DataW.trod_struct Try.underlying28 h
  have hcs : cs.length = 2 := hlen.trans (by kernel_rfl)
  have h0 := hf 0 _ rfl
  obtain ⟨y0, e0⟩ : ∃ y_, xs[0]? = some y_ := ⟨_, List.getElem?_eq_getElem (by rw [hxl]; decide)⟩
  rw [e0] at h0
  have q0 : DataW.trod enc Try.prog w base spare held n 22 ((cs.drop 0).take 1) = some y0 := (congrArg (fun z => DataW.trod enc Try.prog w base spare held n 22 ((cs.drop 0).take z)) (show 1 = Try.prog.cellsOf 22 from by kernel_rfl)).trans h0
  obtain ⟨x0, k0_, g0⟩ := (opens_int Try.underlying22) _ _ _ q0
  have h1 := hf 1 _ rfl
  obtain ⟨y1, e1⟩ : ∃ y_, xs[1]? = some y_ := ⟨_, List.getElem?_eq_getElem (by rw [hxl]; decide)⟩
  rw [e1] at h1
  have q1 : DataW.trod enc Try.prog w base spare held n 3 ((cs.drop 1).take 1) = some y1 := (congrArg (fun z => DataW.trod enc Try.prog w base spare held n 3 ((cs.drop 1).take z)) (show 1 = Try.prog.cellsOf 3 from by kernel_rfl)).trans h1
  obtain ⟨x1, k1_, g1⟩ := (opens_int Try.underlying3) _ _ _ q1
  have s0 : cs.drop 0 = (cs.drop 0).take 1 ++ cs.drop 1 := by have e_ := (List.take_append_drop 1 (cs.drop 0)).symm; rwa [List.drop_drop] at e_
  have s1 : cs.drop 1 = (cs.drop 1).take 1 := (List.take_of_length_le (by rw [List.length_drop, hcs]; decide)).symm
  exact ⟨⟨x0, x1⟩, ⟨(cs.drop 0).take 1, cs.drop 1, (show cs = _ from s0), k0_, (by rw [s1]; exact k1_)⟩, g0, g1⟩
def good30 (x : S30) : Prop := good28 x.f0 ∧ (x.f1.length ≤ 9223372036854775807 ∧ ∀ z_ ∈ x.f1, (Lit.int .u32 z_).wf = true) ∧ (x.f2.length ≤ 9223372036854775807 ∧ ∀ z_ ∈ x.f2, (Lit.int .u32 z_).wf = true) ∧ (Lit.int .u32 x.f3).wf = true ∧ (Lit.int .u32 x.f4).wf = true ∧ (Lit.int .i64 x.f5).wf = true ∧ (Lit.int .u32 x.f6).wf = true
theorem opens_T30 {H : Type} {enc : TypeId × Value → H} {w : World} {base : Nat} {spare : Nat → Bool} {held : Bool} : Opens enc Try.prog w base spare held k30 30 good30 := by
  intro fuel cs y h
  obtain ⟨xs, n, _, _, hlen, hxl, hf⟩ := DataW.trod_struct Try.underlying30 h
  have hcs : cs.length = 8 := hlen.trans (by kernel_rfl)
  have h0 := hf 0 _ rfl
  obtain ⟨y0, e0⟩ : ∃ y_, xs[0]? = some y_ := ⟨_, List.getElem?_eq_getElem (by rw [hxl]; decide)⟩
  rw [e0] at h0
  have q0 : DataW.trod enc Try.prog w base spare held n 28 ((cs.drop 0).take 2) = some y0 := (congrArg (fun z => DataW.trod enc Try.prog w base spare held n 28 ((cs.drop 0).take z)) (show 2 = Try.prog.cellsOf 28 from by kernel_rfl)).trans h0
  obtain ⟨x0, k0_, g0⟩ := opens_T28 _ _ _ q0
  have h1 := hf 1 _ rfl
  obtain ⟨y1, e1⟩ : ∃ y_, xs[1]? = some y_ := ⟨_, List.getElem?_eq_getElem (by rw [hxl]; decide)⟩
  rw [e1] at h1
  have q1 : DataW.trod enc Try.prog w base spare held n 23 ((cs.drop 2).take 1) = some y1 := (congrArg (fun z => DataW.trod enc Try.prog w base spare held n 23 ((cs.drop 2).take z)) (show 1 = Try.prog.cellsOf 23 from by kernel_rfl)).trans h1
  obtain ⟨x1, k1_, g1⟩ := (opens_slice Try.underlying23 (by kernel_rfl) (opens_int Try.underlying22)) _ _ _ q1
  have h2 := hf 2 _ rfl
  obtain ⟨y2, e2⟩ : ∃ y_, xs[2]? = some y_ := ⟨_, List.getElem?_eq_getElem (by rw [hxl]; decide)⟩
  rw [e2] at h2
  have q2 : DataW.trod enc Try.prog w base spare held n 23 ((cs.drop 3).take 1) = some y2 := (congrArg (fun z => DataW.trod enc Try.prog w base spare held n 23 ((cs.drop 3).take z)) (show 1 = Try.prog.cellsOf 23 from by kernel_rfl)).trans h2
  obtain ⟨x2, k2_, g2⟩ := (opens_slice Try.underlying23 (by kernel_rfl) (opens_int Try.underlying22)) _ _ _ q2
  have h3 := hf 3 _ rfl
  obtain ⟨y3, e3⟩ : ∃ y_, xs[3]? = some y_ := ⟨_, List.getElem?_eq_getElem (by rw [hxl]; decide)⟩
  rw [e3] at h3
  have q3 : DataW.trod enc Try.prog w base spare held n 22 ((cs.drop 4).take 1) = some y3 := (congrArg (fun z => DataW.trod enc Try.prog w base spare held n 22 ((cs.drop 4).take z)) (show 1 = Try.prog.cellsOf 22 from by kernel_rfl)).trans h3
  obtain ⟨x3, k3_, g3⟩ := (opens_int Try.underlying22) _ _ _ q3
  have h4 := hf 4 _ rfl
  obtain ⟨y4, e4⟩ : ∃ y_, xs[4]? = some y_ := ⟨_, List.getElem?_eq_getElem (by rw [hxl]; decide)⟩
  rw [e4] at h4
  have q4 : DataW.trod enc Try.prog w base spare held n 22 ((cs.drop 5).take 1) = some y4 := (congrArg (fun z => DataW.trod enc Try.prog w base spare held n 22 ((cs.drop 5).take z)) (show 1 = Try.prog.cellsOf 22 from by kernel_rfl)).trans h4
  obtain ⟨x4, k4_, g4⟩ := (opens_int Try.underlying22) _ _ _ q4
  have h5 := hf 5 _ rfl
  obtain ⟨y5, e5⟩ : ∃ y_, xs[5]? = some y_ := ⟨_, List.getElem?_eq_getElem (by rw [hxl]; decide)⟩
  rw [e5] at h5
  have q5 : DataW.trod enc Try.prog w base spare held n 3 ((cs.drop 6).take 1) = some y5 := (congrArg (fun z => DataW.trod enc Try.prog w base spare held n 3 ((cs.drop 6).take z)) (show 1 = Try.prog.cellsOf 3 from by kernel_rfl)).trans h5
  obtain ⟨x5, k5_, g5⟩ := (opens_int Try.underlying3) _ _ _ q5
  have h6 := hf 6 _ rfl
  obtain ⟨y6, e6⟩ : ∃ y_, xs[6]? = some y_ := ⟨_, List.getElem?_eq_getElem (by rw [hxl]; decide)⟩
  rw [e6] at h6
  have q6 : DataW.trod enc Try.prog w base spare held n 22 ((cs.drop 7).take 1) = some y6 := (congrArg (fun z => DataW.trod enc Try.prog w base spare held n 22 ((cs.drop 7).take z)) (show 1 = Try.prog.cellsOf 22 from by kernel_rfl)).trans h6
  obtain ⟨x6, k6_, g6⟩ := (opens_int Try.underlying22) _ _ _ q6
  have s0 : cs.drop 0 = (cs.drop 0).take 2 ++ cs.drop 2 := by have e_ := (List.take_append_drop 2 (cs.drop 0)).symm; rwa [List.drop_drop] at e_
  have s1 : cs.drop 2 = (cs.drop 2).take 1 ++ cs.drop 3 := by have e_ := (List.take_append_drop 1 (cs.drop 2)).symm; rwa [List.drop_drop] at e_
  have s2 : cs.drop 3 = (cs.drop 3).take 1 ++ cs.drop 4 := by have e_ := (List.take_append_drop 1 (cs.drop 3)).symm; rwa [List.drop_drop] at e_
  have s3 : cs.drop 4 = (cs.drop 4).take 1 ++ cs.drop 5 := by have e_ := (List.take_append_drop 1 (cs.drop 4)).symm; rwa [List.drop_drop] at e_
  have s4 : cs.drop 5 = (cs.drop 5).take 1 ++ cs.drop 6 := by have e_ := (List.take_append_drop 1 (cs.drop 5)).symm; rwa [List.drop_drop] at e_
  have s5 : cs.drop 6 = (cs.drop 6).take 1 ++ cs.drop 7 := by have e_ := (List.take_append_drop 1 (cs.drop 6)).symm; rwa [List.drop_drop] at e_
  have s6 : cs.drop 7 = (cs.drop 7).take 1 := (List.take_of_length_le (by rw [List.length_drop, hcs]; decide)).symm
  exact ⟨⟨x0, x1, x2, x3, x4, x5, x6⟩, ⟨(cs.drop 0).take 2, cs.drop 2, (show cs = _ from s0), k0_, ⟨(cs.drop 2).take 1, cs.drop 3, s1, k1_, ⟨(cs.drop 3).take 1, cs.drop 4, s2, k2_, ⟨(cs.drop 4).take 1, cs.drop 5, s3, k3_, ⟨(cs.drop 5).take 1, cs.drop 6, s4, k4_, ⟨(cs.drop 6).take 1, cs.drop 7, s5, k5_, (by rw [s6]; exact k6_)⟩⟩⟩⟩⟩⟩, g0, g1, g2, g3, g4, g5, g6⟩
end Go.Proofs.Ytgelpccjdndfoaa.P
