/- Part of the proof of the law ActDoes: the functions that it reaches, by contract. -/
import Derived.Deep.Slices
import Derived.Test.YtgelpccjdndfoaaCActDoes0
import Derived.Test.YtgelpccjdndfoaaCActDoes1
import Derived.Test.YtgelpccjdndfoaaCActDoes2
import Derived.Test.YtgelpccjdndfoaaCActDoes3
set_option linter.unusedVariables false
set_option linter.unusedSimpArgs false
namespace Go.Proofs.Ytgelpccjdndfoaa.P
open Go.RowKit Go.Proofs.YtgelpccjdndfoaaW.PrintWords Go.Proofs.YtgelpccjdndfoaaW.PrintLast Go.Proofs.YtgelpccjdndfoaaW.PrintMore
attribute [local go_sem] max2_int min2_int max_two min_two max_three min_three max_four min_four
/-! ### dragomanlaw12_ActDoes: function 3 -/
mutual
def q29z.j0 : Nat → Bool → Int → Int → List Int → List (S53) → Int → Int → List Int → List Int → Int → Int → Int → Int → Option (Bool)
 | 0, _, _, _, _, _, _, _, _, _, _, _, _, _ => none
 | k + 1, x18, x2000, x2001, x2002, x2003, x3000, x3001, x3002, x3003, x3004, x3005, x3006, x3007 => if x18 = true then (some true) else ((q3z.f k x2000 x2001 x2002 x2003).bind fun bt6 => ((q4z.f x3000 x3001 x3002 x3003 x3004 x3005 x3006 x3007).bind fun bt14 => ((q11z.f k bt6.1 bt6.2.1 bt6.2.2.1 bt6.2.2.2 bt14.1 bt14.2.1 bt14.2.2.1 bt14.2.2.2.1 bt14.2.2.2.2.1 bt14.2.2.2.2.2.1 bt14.2.2.2.2.2.2.1 bt14.2.2.2.2.2.2.2).bind fun bt28 => ((q7z.f k bt6.1 bt6.2.1 bt6.2.2.1 bt6.2.2.2).bind fun t41 => ((q13z.f k x2000 x2001 x2002 x2003).bind fun t42 => (if (t41 != t42) = true then (q29z.j1 k true x2000 x2001 x2002 x2003 x3000 x3001 x3002 x3003 x3004 x3005 x3006 x3007 bt6.1 bt6.2.1 bt6.2.2.1 bt6.2.2.2 bt14.1 bt14.2.1 bt14.2.2.1 bt14.2.2.2.1 bt14.2.2.2.2.1 bt14.2.2.2.2.2.1 bt14.2.2.2.2.2.2.1 bt14.2.2.2.2.2.2.2) else ((q21z.f k x2000 x2001 x2002 x2003 x3000 x3001 x3002 x3003 x3004 x3005 x3006 x3007).bind fun bt43 => ((q16z.f k bt28.1 bt28.2.1 bt28.2.2.1 bt28.2.2.2.1 bt28.2.2.2.2.1 bt28.2.2.2.2.2.1 bt28.2.2.2.2.2.2.1 bt28.2.2.2.2.2.2.2 bt43.1 bt43.2.1 bt43.2.2.1 bt43.2.2.2.1 bt43.2.2.2.2.1 bt43.2.2.2.2.2.1 bt43.2.2.2.2.2.2.1 bt43.2.2.2.2.2.2.2).bind fun t55 => (q29z.j1 k (t55 != 0) x2000 x2001 x2002 x2003 x3000 x3001 x3002 x3003 x3004 x3005 x3006 x3007 bt6.1 bt6.2.1 bt6.2.2.1 bt6.2.2.2 bt14.1 bt14.2.1 bt14.2.2.1 bt14.2.2.2.1 bt14.2.2.2.2.1 bt14.2.2.2.2.2.1 bt14.2.2.2.2.2.2.1 bt14.2.2.2.2.2.2.2)))))))))
def q29z.j1 : Nat → Bool → Int → Int → List Int → List (S53) → Int → Int → List Int → List Int → Int → Int → Int → Int → Int → Int → List Int → List (S53) → Int → Int → List Int → List Int → Int → Int → Int → Int → Option (Bool)
 | 0, _, _, _, _, _, _, _, _, _, _, _, _, _, _, _, _, _, _, _, _, _, _, _, _, _ => none
 | k + 1, x38, x2000, x2001, x2002, x2003, x3000, x3001, x3002, x3003, x3004, x3005, x3006, x3007, x27000, x27001, x27002, x27003, x28000, x28001, x28002, x28003, x28004, x28005, x28006, x28007 => if x38 = true then (some false) else ((q24z.f k x27000 x27001 x27002 x27003 x2000 x2001 x2002 x2003).bind fun t56 => (if t56 = true then ((q16z.f k x28000 x28001 x28002 x28003 x28004 x28005 x28006 x28007 x3000 x3001 x3002 x3003 x3004 x3005 x3006 x3007).bind fun t57 => (some (t57 == 0))) else (some false)))
end
def q29z.f (k : Nat) (a0_0 : Int) (a0_1 : Int) (l0_2 : List Int) (l0_3 : List (S53)) (a1_0 : Int) (a1_1 : Int) (l1_2 : List Int) (l1_3 : List Int) (a1_4 : Int) (a1_5 : Int) (a1_6 : Int) (a1_7 : Int) : Option (Bool) := (q25z.f k).bind fun t3 => (if t3 = true then ((q28z.f k a0_0 a0_1 l0_2 l0_3).bind fun t4 => (if t4 = true then (q29z.j0 k true a0_0 a0_1 l0_2 l0_3 a1_0 a1_1 l1_2 l1_3 a1_4 a1_5 a1_6 a1_7) else ((q1z.f a1_0 a1_1 l1_2 l1_3 a1_4 a1_5 a1_6 a1_7).bind fun t5 => (q29z.j0 k t5 a0_0 a0_1 l0_2 l0_3 a1_0 a1_1 l1_2 l1_3 a1_4 a1_5 a1_6 a1_7)))) else (some false))
theorem q29z.mono_l : ∀ k, (∀ y0 y1 y2 y3 y4 y5 y6 y7 y8 y9 y10 y11 y12, LeO (q29z.j0 k y0 y1 y2 y3 y4 y5 y6 y7 y8 y9 y10 y11 y12) (q29z.j0 (k + 1) y0 y1 y2 y3 y4 y5 y6 y7 y8 y9 y10 y11 y12)) ∧ (∀ y0 y1 y2 y3 y4 y5 y6 y7 y8 y9 y10 y11 y12 y13 y14 y15 y16 y17 y18 y19 y20 y21 y22 y23 y24, LeO (q29z.j1 k y0 y1 y2 y3 y4 y5 y6 y7 y8 y9 y10 y11 y12 y13 y14 y15 y16 y17 y18 y19 y20 y21 y22 y23 y24) (q29z.j1 (k + 1) y0 y1 y2 y3 y4 y5 y6 y7 y8 y9 y10 y11 y12 y13 y14 y15 y16 y17 y18 y19 y20 y21 y22 y23 y24))
 | 0 => ⟨fun _ _ _ _ _ _ _ _ _ _ _ _ _ r h => by simp [q29z.j0] at h, fun _ _ _ _ _ _ _ _ _ _ _ _ _ _ _ _ _ _ _ _ _ _ _ _ _ r h => by simp [q29z.j1] at h⟩
 | k + 1 => by
  obtain ⟨ih0, ih1⟩ := q29z.mono_l k
  refine ⟨?_, ?_⟩
  ·
   intro y0 y1 y2 y3 y4 y5 y6 y7 y8 y9 y10 y11 y12
   unfold q29z.j0
   repeat' first
   | (with_reducible exact ih0 _ _ _ _ _ _ _ _ _ _ _ _ _)
   | (with_reducible exact ih1 _ _ _ _ _ _ _ _ _ _ _ _ _ _ _ _ _ _ _ _ _ _ _ _ _)
   | (with_reducible exact q11z.mono _ _ _ _ _ _ _ _ _ _ _ _ _)
   | (with_reducible exact q7z.mono _ _ _ _ _)
   | (with_reducible exact q25z.mono _)
   | (with_reducible exact q16z.mono _ _ _ _ _ _ _ _ _ _ _ _ _ _ _ _ _)
   | (with_reducible exact q3z.mono _ _ _ _ _)
   | (with_reducible exact q21z.mono _ _ _ _ _ _ _ _ _ _ _ _ _)
   | (with_reducible exact q28z.mono _ _ _ _ _)
   | (with_reducible exact q13z.mono _ _ _ _ _)
   | (with_reducible exact q24z.mono _ _ _ _ _ _ _ _ _)
   | (with_reducible exact LeO.refl _)
   | (with_reducible exact LeO.none _)
   | (with_reducible refine LeO.ite ?_ ?_)
   | (with_reducible refine LeO.bind ?_ (fun _ => ?_))
   | exact ih0 _ _ _ _ _ _ _ _ _ _ _ _ _
   | exact ih1 _ _ _ _ _ _ _ _ _ _ _ _ _ _ _ _ _ _ _ _ _ _ _ _ _
   | exact q11z.mono _ _ _ _ _ _ _ _ _ _ _ _ _
   | exact q7z.mono _ _ _ _ _
   | exact q25z.mono _
   | exact q16z.mono _ _ _ _ _ _ _ _ _ _ _ _ _ _ _ _ _
   | exact q3z.mono _ _ _ _ _
   | exact q21z.mono _ _ _ _ _ _ _ _ _ _ _ _ _
   | exact q28z.mono _ _ _ _ _
   | exact q13z.mono _ _ _ _ _
   | exact q24z.mono _ _ _ _ _ _ _ _ _
   | exact LeO.none _
   | refine LeO.ite ?_ ?_
   | refine LeO.bind ?_ (fun _ => ?_)
  ·
   intro y0 y1 y2 y3 y4 y5 y6 y7 y8 y9 y10 y11 y12 y13 y14 y15 y16 y17 y18 y19 y20 y21 y22 y23 y24
   unfold q29z.j1
   repeat' first
   | (with_reducible exact ih0 _ _ _ _ _ _ _ _ _ _ _ _ _)
   | (with_reducible exact ih1 _ _ _ _ _ _ _ _ _ _ _ _ _ _ _ _ _ _ _ _ _ _ _ _ _)
   | (with_reducible exact q11z.mono _ _ _ _ _ _ _ _ _ _ _ _ _)
   | (with_reducible exact q7z.mono _ _ _ _ _)
   | (with_reducible exact q25z.mono _)
   | (with_reducible exact q16z.mono _ _ _ _ _ _ _ _ _ _ _ _ _ _ _ _ _)
   | (with_reducible exact q3z.mono _ _ _ _ _)
   | (with_reducible exact q21z.mono _ _ _ _ _ _ _ _ _ _ _ _ _)
   | (with_reducible exact q28z.mono _ _ _ _ _)
   | (with_reducible exact q13z.mono _ _ _ _ _)
   | (with_reducible exact q24z.mono _ _ _ _ _ _ _ _ _)
   | (with_reducible exact LeO.refl _)
   | (with_reducible exact LeO.none _)
   | (with_reducible refine LeO.ite ?_ ?_)
   | (with_reducible refine LeO.bind ?_ (fun _ => ?_))
   | exact ih0 _ _ _ _ _ _ _ _ _ _ _ _ _
   | exact ih1 _ _ _ _ _ _ _ _ _ _ _ _ _ _ _ _ _ _ _ _ _ _ _ _ _
   | exact q11z.mono _ _ _ _ _ _ _ _ _ _ _ _ _
   | exact q7z.mono _ _ _ _ _
   | exact q25z.mono _
   | exact q16z.mono _ _ _ _ _ _ _ _ _ _ _ _ _ _ _ _ _
   | exact q3z.mono _ _ _ _ _
   | exact q21z.mono _ _ _ _ _ _ _ _ _ _ _ _ _
   | exact q28z.mono _ _ _ _ _
   | exact q13z.mono _ _ _ _ _
   | exact q24z.mono _ _ _ _ _ _ _ _ _
   | exact LeO.none _
   | refine LeO.ite ?_ ?_
   | refine LeO.bind ?_ (fun _ => ?_)
theorem q29z.mono : ∀ a0 a1 a2 a3 a4 a5 a6 a7 a8 a9 a10 a11 k, LeO (q29z.f k a0 a1 a2 a3 a4 a5 a6 a7 a8 a9 a10 a11) (q29z.f (k + 1) a0 a1 a2 a3 a4 a5 a6 a7 a8 a9 a10 a11) := by
 intro a0 a1 a2 a3 a4 a5 a6 a7 a8 a9 a10 a11 k
 obtain ⟨ih0, ih1⟩ := q29z.mono_l k
 unfold q29z.f
 repeat' first
   | (with_reducible exact ih0 _ _ _ _ _ _ _ _ _ _ _ _ _)
   | (with_reducible exact ih1 _ _ _ _ _ _ _ _ _ _ _ _ _ _ _ _ _ _ _ _ _ _ _ _ _)
   | (with_reducible exact q11z.mono _ _ _ _ _ _ _ _ _ _ _ _ _)
   | (with_reducible exact q7z.mono _ _ _ _ _)
   | (with_reducible exact q25z.mono _)
   | (with_reducible exact q16z.mono _ _ _ _ _ _ _ _ _ _ _ _ _ _ _ _ _)
   | (with_reducible exact q3z.mono _ _ _ _ _)
   | (with_reducible exact q21z.mono _ _ _ _ _ _ _ _ _ _ _ _ _)
   | (with_reducible exact q28z.mono _ _ _ _ _)
   | (with_reducible exact q13z.mono _ _ _ _ _)
   | (with_reducible exact q24z.mono _ _ _ _ _ _ _ _ _)
   | (with_reducible exact LeO.refl _)
   | (with_reducible exact LeO.none _)
   | (with_reducible refine LeO.ite ?_ ?_)
   | (with_reducible refine LeO.bind ?_ (fun _ => ?_))
   | exact ih0 _ _ _ _ _ _ _ _ _ _ _ _ _
   | exact ih1 _ _ _ _ _ _ _ _ _ _ _ _ _ _ _ _ _ _ _ _ _ _ _ _ _
   | exact q11z.mono _ _ _ _ _ _ _ _ _ _ _ _ _
   | exact q7z.mono _ _ _ _ _
   | exact q25z.mono _
   | exact q16z.mono _ _ _ _ _ _ _ _ _ _ _ _ _ _ _ _ _
   | exact q3z.mono _ _ _ _ _
   | exact q21z.mono _ _ _ _ _ _ _ _ _ _ _ _ _
   | exact q28z.mono _ _ _ _ _
   | exact q13z.mono _ _ _ _ _
   | exact q24z.mono _ _ _ _ _ _ _ _ _
   | exact LeO.none _
   | refine LeO.ite ?_ ?_
   | refine LeO.bind ?_ (fun _ => ?_)
def q29z.T5 : Bool × List (List Nat × List Nat) := (true, [([], []), ([0], [0]), ([], []), ([2, 1], [2]), ([], []), ([], []), ([4, 1, 3, 0, 1, 4, 5], [1, 4]), ([5, 3, 6, 0, 1, 2, 3, 4, 5, 6], [3, 5])])
def q29z.B5 : List Nat := [0, 1, 0, 7, 0, 0, 63, 127]
theorem q29z.tab5 : rtab .any (opsOf Try.f3 5) = q29z.T5 := by kernel_rfl
theorem q29z.bits5 : waitsOk q29z.T5.2 q29z.B5 = true := by kernel_rfl
def q29z.T7 : Bool × List (List Nat × List Nat) := (true, [([], []), ([0], [0]), ([], []), ([2, 1], [2]), ([1, 3], [1, 3]), ([4, 3], [4]), ([5], [5]), ([5], [5]), ([5], [5]), ([7, 8, 5, 5], [5, 7, 8]), ([6, 9, 9, 5], [5, 6, 9]), ([10, 5], [5, 10]), ([5, 11], [5, 11])])
def q29z.B7 : List Nat := [0, 1, 0, 7, 15, 31, 63, 63, 63, 447, 1023, 2047, 4095]
theorem q29z.tab7 : rtab .any (opsOf Try.f3 7) = q29z.T7 := by kernel_rfl
theorem q29z.bits7 : waitsOk q29z.T7.2 q29z.B7 = true := by kernel_rfl
set_option maxHeartbeats 8000000 in
set_option maxRecDepth 100000 in
theorem q29z.calls (k : Nat) (a0_0 : Int) (a0_1 : Int) (A0_2 : Option Addr) (c0_2 : Nat) (l0_2 : List Int) (A0_3 : Option Addr) (c0_3 : Nat) (l0_3 : List (S53)) (a1_0 : Int) (a1_1 : Int) (A1_2 : Option Addr) (c1_2 : Nat) (l1_2 : List Int) (A1_3 : Option Addr) (c1_3 : Nat) (l1_3 : List Int) (a1_4 : Int) (a1_5 : Int) (a1_6 : Int) (a1_7 : Int) (r : Bool) (w : World) (hr0_2 : Kd.C (Kd.int .u32) w A0_2 l0_2.length l0_2) (hc0_2 : l0_2.length ≤ c0_2) (hr0_3 : Kd.C k53 w A0_3 l0_3.length l0_3) (hc0_3 : l0_3.length ≤ c0_3) (hr1_2 : Kd.C (Kd.int .u32) w A1_2 l1_2.length l1_2) (hc1_2 : l1_2.length ≤ c1_2) (hr1_3 : Kd.C (Kd.int .u32) w A1_3 l1_3.length l1_3) (hc1_3 : l1_3.length ≤ c1_3) (h : q29z.f k a0_0 a0_1 l0_2 l0_3 a1_0 a1_1 l1_2 l1_3 a1_4 a1_5 a1_6 a1_7 = some r) :
  Calls Try.prog 3 #[.agg #[.int .i64 a0_0, .int .u32 a0_1, .slice A0_2 l0_2.length c0_2, .slice A0_3 l0_3.length c0_3], .agg #[.int .u32 a1_0, .int .i64 a1_1, .slice A1_2 l1_2.length c1_2, .slice A1_3 l1_3.length c1_3, .int .u32 a1_4, .int .u32 a1_5, .int .i64 a1_6, .int .u32 a1_7]] w fun e w' => e = .returned (.bool r) ∧ Below w.heap.size w w' := by
 have hu26 := Try.underlying26
 have hu30 := Try.underlying30
 have HR0_2 := Aside0.mk hr0_2
 have HC0_2 := Aside0.mk hc0_2
 clear hr0_2 hc0_2
 have HR0_3 := Aside0.mk hr0_3
 have HC0_3 := Aside0.mk hc0_3
 clear hr0_3 hc0_3
 have HR1_2 := Aside0.mk hr1_2
 have HC1_2 := Aside0.mk hc1_2
 clear hr1_2 hc1_2
 have HR1_3 := Aside0.mk hr1_3
 have HC1_3 := Aside0.mk hc1_3
 clear hr1_3 hc1_3
 have HB := Aside0.mk (Below.refl w.heap.size w)
 have H : ((q25z.f k).bind fun t3 => (if t3 = true then ((q28z.f k a0_0 a0_1 l0_2 l0_3).bind fun t4 => (if t4 = true then (q29z.j0 k true a0_0 a0_1 l0_2 l0_3 a1_0 a1_1 l1_2 l1_3 a1_4 a1_5 a1_6 a1_7) else ((q1z.f a1_0 a1_1 l1_2 l1_3 a1_4 a1_5 a1_6 a1_7).bind fun t5 => (q29z.j0 k t5 a0_0 a0_1 l0_2 l0_3 a1_0 a1_1 l1_2 l1_3 a1_4 a1_5 a1_6 a1_7)))) else (some false))) = some r := h
 clear h
 replace H := Option.bind_eq_some_iff.mp H
 obtain ⟨t3, A30, H⟩ := H
 replace H : (if t3 = true then ((q28z.f k a0_0 a0_1 l0_2 l0_3).bind fun t4 => (if t4 = true then (q29z.j0 k true a0_0 a0_1 l0_2 l0_3 a1_0 a1_1 l1_2 l1_3 a1_4 a1_5 a1_6 a1_7) else ((q1z.f a1_0 a1_1 l1_2 l1_3 a1_4 a1_5 a1_6 a1_7).bind fun t5 => (q29z.j0 k t5 a0_0 a0_1 l0_2 l0_3 a1_0 a1_1 l1_2 l1_3 a1_4 a1_5 a1_6 a1_7)))) else (some false)) = some r := H
 have A3 := Aside0.mk A30
 clear A30
 by_cases c4 : t3 = true
 ·
  subst c4
  have H1 : ((q28z.f k a0_0 a0_1 l0_2 l0_3).bind fun t4 => (if t4 = true then (q29z.j0 k true a0_0 a0_1 l0_2 l0_3 a1_0 a1_1 l1_2 l1_3 a1_4 a1_5 a1_6 a1_7) else ((q1z.f a1_0 a1_1 l1_2 l1_3 a1_4 a1_5 a1_6 a1_7).bind fun t5 => (q29z.j0 k t5 a0_0 a0_1 l0_2 l0_3 a1_0 a1_1 l1_2 l1_3 a1_4 a1_5 a1_6 a1_7)))) = some r := by rw [if_pos rfl] at H; exact H
  clear H
  have H := H1
  clear H1
  have HC5 := Aside0.mk H
  clear H
  go_enter Try.func3, Try.ntmps3
  go_upto_region 3 with (first | ((with_reducible refine gate_dst (N := 2) rfl ?_); refine box_event ?hg (N := 2) ?hd (cs := #[.int .i64 a0_0, .int .u32 a0_1, .slice A0_2 l0_2.length c0_2, .slice A0_3 l0_3.length c0_3]) (t := 26) ?hr ?_; (case hd => rfl); (case hg => rfl); (case hr => first | (go_simp; done) | (go_simp; rfl)); intro gb1 hg w6 hbox hb; have BK1 := Aside0.mk (hbox); have GW1 := gwS hg HB; have GE1 := gwS hg HB; replace HB := hbS HB hb; clear hb hbox hg) | ((with_reducible refine gate_dst (N := 3) rfl ?_); refine box_event ?hg (N := 3) ?hd (cs := #[.int .u32 a1_0, .int .i64 a1_1, .slice A1_2 l1_2.length c1_2, .slice A1_3 l1_3.length c1_3, .int .u32 a1_4, .int .u32 a1_5, .int .i64 a1_6, .int .u32 a1_7]) (t := 30) ?hr ?_; (case hd => rfl); (case hg => rfl); (case hr => first | (go_simp; done) | (go_simp; rfl)); intro gb2 hg w7 hbox hb; have BK2 := Aside0.mk (hbox); have GW2 := gwS hg HB; have GE2 := gwS hg HB; have NB1_2 := nbL hg BK1; have NB2_1 := nbG hg BK1; replace BK1 := bkB BK1 hb; replace HB := hbS HB hb; clear hb hbox hg) | ((with_reducible refine gate_callee (f := 8) rfl ?_); refine goesL_ (some 11) rfl rfl Try.func8 (by kernel_rfl) rfl #[] rfl (by (try simp only [List.map_toArray, List.map_cons, List.map_nil]); first | done | rfl | (simp only [List.length_drop, List.length_take]; rfl)) ?_; (with_reducible refine (q25z.calls k  true _ A3.out).mono ?_); rintro e w8 ⟨rfl, hb⟩; refine ⟨_, rfl, ?_⟩; replace BK1 := bkB BK1 hb; replace BK2 := bkB BK2 hb; replace HB := hbS HB hb; (try clear hb)))
  (try simp only [Act.put, List.setIfInBounds_toArray, List.set_cons_zero, List.set_cons_succ])
  go_cut [18] (fun v18 wc => ∃ (kq : Nat) (x18_4 : Bool), v18 = .bool x18_4 ∧ Aside0 (q29z.j0 kq x18_4 a0_0 a0_1 l0_2 l0_3 a1_0 a1_1 l1_2 l1_3 a1_4 a1_5 a1_6 a1_7 = some r) ∧ Aside0 (kq ≤ k) ∧ Aside0 (wc.heap[gb1]? = some (.cells #[.int .i64 a0_0, .int .u32 a0_1, (.slice A0_2 l0_2.length c0_2), (.slice A0_3 l0_3.length c0_3)] 26 (0, 0))) ∧ Aside0 (wc.heap[gb2]? = some (.cells #[.int .u32 a1_0, .int .i64 a1_1, (.slice A1_2 l1_2.length c1_2), (.slice A1_3 l1_3.length c1_3), .int .u32 a1_4, .int .u32 a1_5, .int .i64 a1_6, .int .u32 a1_7] 30 (0, 0))) ∧ Aside0 (Below w.heap.size w wc))
  case first =>
   have H := HC5.out
   clear HC5
   replace H := Option.bind_eq_some_iff.mp H
   obtain ⟨t4, A90, H⟩ := H
   replace H : (if t4 = true then (q29z.j0 k true a0_0 a0_1 l0_2 l0_3 a1_0 a1_1 l1_2 l1_3 a1_4 a1_5 a1_6 a1_7) else ((q1z.f a1_0 a1_1 l1_2 l1_3 a1_4 a1_5 a1_6 a1_7).bind fun t5 => (q29z.j0 k t5 a0_0 a0_1 l0_2 l0_3 a1_0 a1_1 l1_2 l1_3 a1_4 a1_5 a1_6 a1_7))) = some r := H
   have A9 := Aside0.mk A90
   clear A90
   by_cases c10 : t4 = true
   ·
    subst c10
    have H1 : (q29z.j0 k true a0_0 a0_1 l0_2 l0_3 a1_0 a1_1 l1_2 l1_3 a1_4 a1_5 a1_6 a1_7) = some r := by rw [if_pos rfl] at H; exact H
    clear H
    have H := H1
    clear H1
    have H' := Aside0.mk H
    clear H
    have hnb11 := NB1_2.out
    have hnc11 := NB2_1.out
    obtain ⟨hcz12_0, hcz12_1, hcz12_2, hcz12_3, hfz12_0, hfz12_1, hfz12_2, hfz12_3⟩ := bc4 BK1
    go_wp2_with (first | ((with_reducible refine gate_callee (f := 9) rfl ?_); refine goesL_ (some 14) rfl rfl Try.func9 (by kernel_rfl) rfl #[.agg #[.int .i64 a0_0, .int .u32 a0_1, .slice A0_2 l0_2.length c0_2, .slice A0_3 l0_3.length c0_3]] rfl (by (try simp only [List.map_toArray, List.map_cons, List.map_nil]); first | done | rfl | (simp only [List.length_drop, List.length_take]; rfl)) ?_; (with_reducible refine (q28z.calls k a0_0 a0_1 _ _ l0_2 _ _ l0_3 true _ ?side1 ?side2 ?side3 ?side4 A9.out).mono ?_); (case side1 => repeat (first | exact (Kd.C_below HR0_2.out HB.out) | (with_reducible refine Kd.C_alloc ?_ _) | (with_reducible refine Kd.C_drewN ?_ _) | (with_reducible refine Kd.C_drew ?_))); (case side2 => exact HC0_2.out); (case side3 => repeat (first | exact (Kd.C_below HR0_3.out HB.out) | (with_reducible refine Kd.C_alloc ?_ _) | (with_reducible refine Kd.C_drewN ?_ _) | (with_reducible refine Kd.C_drew ?_))); (case side4 => exact HC0_3.out); rintro e w13 ⟨rfl, hb⟩; refine ⟨_, rfl, ?_⟩; replace BK1 := bkB BK1 hb; replace BK2 := bkB BK2 hb; replace HB := hbS HB hb; (try clear hb)))
    go_meet
    case rel => exact ⟨_, (true), (by first | rfl | (simp; done) | (simp [*]; done)), H', ⟨by first | omega | exact Nat.le_refl _⟩, ⟨by (with_reducible repeat (first | refine blk_drewN ?_ _ | refine blk_drew ?_ | refine blk_alloc ?_ _)); exact BK1.out⟩, ⟨by (with_reducible repeat (first | refine blk_drewN ?_ _ | refine blk_drew ?_ | refine blk_alloc ?_ _)); exact BK2.out⟩, ⟨hbW HB⟩⟩
   ·
    replace c10 := Bool.eq_false_iff.mpr c10
    subst c10
    have H1 : ((q1z.f a1_0 a1_1 l1_2 l1_3 a1_4 a1_5 a1_6 a1_7).bind fun t5 => (q29z.j0 k t5 a0_0 a0_1 l0_2 l0_3 a1_0 a1_1 l1_2 l1_3 a1_4 a1_5 a1_6 a1_7)) = some r := by rw [if_neg (show ¬ (false = true) by decide)] at H; exact H
    clear H
    have H := H1
    clear H1
    replace H := Option.bind_eq_some_iff.mp H
    obtain ⟨t5, A140, H⟩ := H
    replace H : (q29z.j0 k t5 a0_0 a0_1 l0_2 l0_3 a1_0 a1_1 l1_2 l1_3 a1_4 a1_5 a1_6 a1_7) = some r := H
    have A14 := Aside0.mk A140
    clear A140
    have H' := Aside0.mk H
    clear H
    have hnb15 := NB1_2.out
    have hnc15 := NB2_1.out
    obtain ⟨hcz16_0, hcz16_1, hcz16_2, hcz16_3, hfz16_0, hfz16_1, hfz16_2, hfz16_3⟩ := bc4 BK1
    go_wp2_with (first | ((with_reducible refine gate_callee (f := 9) rfl ?_); refine goesL_ (some 14) rfl rfl Try.func9 (by kernel_rfl) rfl #[.agg #[.int .i64 a0_0, .int .u32 a0_1, .slice A0_2 l0_2.length c0_2, .slice A0_3 l0_3.length c0_3]] rfl (by (try simp only [List.map_toArray, List.map_cons, List.map_nil]); first | done | rfl | (simp only [List.length_drop, List.length_take]; rfl)) ?_; (with_reducible refine (q28z.calls k a0_0 a0_1 _ _ l0_2 _ _ l0_3 false _ ?side1 ?side2 ?side3 ?side4 A9.out).mono ?_); (case side1 => repeat (first | exact (Kd.C_below HR0_2.out HB.out) | (with_reducible refine Kd.C_alloc ?_ _) | (with_reducible refine Kd.C_drewN ?_ _) | (with_reducible refine Kd.C_drew ?_))); (case side2 => exact HC0_2.out); (case side3 => repeat (first | exact (Kd.C_below HR0_3.out HB.out) | (with_reducible refine Kd.C_alloc ?_ _) | (with_reducible refine Kd.C_drewN ?_ _) | (with_reducible refine Kd.C_drew ?_))); (case side4 => exact HC0_3.out); rintro e w17 ⟨rfl, hb⟩; refine ⟨_, rfl, ?_⟩; replace BK1 := bkB BK1 hb; replace BK2 := bkB BK2 hb; replace HB := hbS HB hb; (try clear hb); obtain ⟨hcz18_0, hcz18_1, hcz18_2, hcz18_3, hcz18_4, hcz18_5, hcz18_6, hcz18_7, hfz18_0, hfz18_1, hfz18_2, hfz18_3, hfz18_4, hfz18_5, hfz18_6, hfz18_7⟩ := bc8 BK2) | (go_at_call 10; (with_reducible refine (q1z.calls a1_0 a1_1 _ _ l1_2 _ _ l1_3 a1_4 a1_5 a1_6 a1_7 t5 _ ?side1 ?side2 ?side3 ?side4 A14.out).mono ?_); (case side1 => repeat (first | exact (Kd.C_below HR1_2.out HB.out) | (with_reducible refine Kd.C_alloc ?_ _) | (with_reducible refine Kd.C_drewN ?_ _) | (with_reducible refine Kd.C_drew ?_))); (case side2 => exact HC1_2.out); (case side3 => repeat (first | exact (Kd.C_below HR1_3.out HB.out) | (with_reducible refine Kd.C_alloc ?_ _) | (with_reducible refine Kd.C_drewN ?_ _) | (with_reducible refine Kd.C_drew ?_))); (case side4 => exact HC1_3.out); rintro e w19 ⟨rfl, hb⟩; replace BK1 := bkB BK1 hb; replace BK2 := bkB BK2 hb; replace HB := hbS HB hb; (try clear hb)))
    go_meet
    case rel => exact ⟨_, (t5), (by first | rfl | (simp; done) | (simp [*]; done)), H', ⟨by first | omega | exact Nat.le_refl _⟩, ⟨by (with_reducible repeat (first | refine blk_drewN ?_ _ | refine blk_drew ?_ | refine blk_alloc ?_ _)); exact BK1.out⟩, ⟨by (with_reducible repeat (first | refine blk_drewN ?_ _ | refine blk_drew ?_ | refine blk_alloc ?_ _)); exact BK2.out⟩, ⟨hbW HB⟩⟩
  case rest =>
   clear HC5
   try clear c1
   try clear p2
   try clear c3
   try clear c4
   try clear c8
   try clear c9
   try clear c10
   try clear c11
   try clear c15
   obtain ⟨kq, x18_4, rfl, HA, HJ4, BK1, BK2, HB⟩ := hcut
   cases kq with
   | zero => exact absurd HA.out (by simp [q29z.j0])
   | succ kj4 =>
    have H := HA.out
    clear HA
    simp only [q29z.j0] at H
    by_cases c20 : x18_4 = true
    ·
     subst c20
     have H1 : (some true) = some r := by rw [if_pos rfl] at H; exact H
     clear H
     have H := H1
     clear H1
     obtain rfl := Option.some.inj H
     go_wp2
     go_ret
     exact ⟨by first | rfl | (simp [errW_none, errW_some] <;> rfl) | (simp [*, errW_none, errW_some] <;> rfl), hbW HB⟩
    ·
     replace c20 := Bool.eq_false_iff.mpr c20
     subst c20
     have H1 : ((q3z.f kj4 a0_0 a0_1 l0_2 l0_3).bind fun bt6 => ((q4z.f a1_0 a1_1 l1_2 l1_3 a1_4 a1_5 a1_6 a1_7).bind fun bt14 => ((q11z.f kj4 bt6.1 bt6.2.1 bt6.2.2.1 bt6.2.2.2 bt14.1 bt14.2.1 bt14.2.2.1 bt14.2.2.2.1 bt14.2.2.2.2.1 bt14.2.2.2.2.2.1 bt14.2.2.2.2.2.2.1 bt14.2.2.2.2.2.2.2).bind fun bt28 => ((q7z.f kj4 bt6.1 bt6.2.1 bt6.2.2.1 bt6.2.2.2).bind fun t41 => ((q13z.f kj4 a0_0 a0_1 l0_2 l0_3).bind fun t42 => (if (t41 != t42) = true then (q29z.j1 kj4 true a0_0 a0_1 l0_2 l0_3 a1_0 a1_1 l1_2 l1_3 a1_4 a1_5 a1_6 a1_7 bt6.1 bt6.2.1 bt6.2.2.1 bt6.2.2.2 bt14.1 bt14.2.1 bt14.2.2.1 bt14.2.2.2.1 bt14.2.2.2.2.1 bt14.2.2.2.2.2.1 bt14.2.2.2.2.2.2.1 bt14.2.2.2.2.2.2.2) else ((q21z.f kj4 a0_0 a0_1 l0_2 l0_3 a1_0 a1_1 l1_2 l1_3 a1_4 a1_5 a1_6 a1_7).bind fun bt43 => ((q16z.f kj4 bt28.1 bt28.2.1 bt28.2.2.1 bt28.2.2.2.1 bt28.2.2.2.2.1 bt28.2.2.2.2.2.1 bt28.2.2.2.2.2.2.1 bt28.2.2.2.2.2.2.2 bt43.1 bt43.2.1 bt43.2.2.1 bt43.2.2.2.1 bt43.2.2.2.2.1 bt43.2.2.2.2.2.1 bt43.2.2.2.2.2.2.1 bt43.2.2.2.2.2.2.2).bind fun t55 => (q29z.j1 kj4 (t55 != 0) a0_0 a0_1 l0_2 l0_3 a1_0 a1_1 l1_2 l1_3 a1_4 a1_5 a1_6 a1_7 bt6.1 bt6.2.1 bt6.2.2.1 bt6.2.2.2 bt14.1 bt14.2.1 bt14.2.2.1 bt14.2.2.2.1 bt14.2.2.2.2.1 bt14.2.2.2.2.2.1 bt14.2.2.2.2.2.2.1 bt14.2.2.2.2.2.2.2))))))))) = some r := by rw [if_neg (show ¬ (false = true) by decide)] at H; exact H
     clear H
     have H := H1
     clear H1
     replace H := Option.bind_eq_some_iff.mp H
     obtain ⟨⟨t6, t7, t8, t11⟩, A210, H⟩ := H
     replace H : ((q4z.f a1_0 a1_1 l1_2 l1_3 a1_4 a1_5 a1_6 a1_7).bind fun bt14 => ((q11z.f kj4 t6 t7 t8 t11 bt14.1 bt14.2.1 bt14.2.2.1 bt14.2.2.2.1 bt14.2.2.2.2.1 bt14.2.2.2.2.2.1 bt14.2.2.2.2.2.2.1 bt14.2.2.2.2.2.2.2).bind fun bt28 => ((q7z.f kj4 t6 t7 t8 t11).bind fun t41 => ((q13z.f kj4 a0_0 a0_1 l0_2 l0_3).bind fun t42 => (if (t41 != t42) = true then (q29z.j1 kj4 true a0_0 a0_1 l0_2 l0_3 a1_0 a1_1 l1_2 l1_3 a1_4 a1_5 a1_6 a1_7 t6 t7 t8 t11 bt14.1 bt14.2.1 bt14.2.2.1 bt14.2.2.2.1 bt14.2.2.2.2.1 bt14.2.2.2.2.2.1 bt14.2.2.2.2.2.2.1 bt14.2.2.2.2.2.2.2) else ((q21z.f kj4 a0_0 a0_1 l0_2 l0_3 a1_0 a1_1 l1_2 l1_3 a1_4 a1_5 a1_6 a1_7).bind fun bt43 => ((q16z.f kj4 bt28.1 bt28.2.1 bt28.2.2.1 bt28.2.2.2.1 bt28.2.2.2.2.1 bt28.2.2.2.2.2.1 bt28.2.2.2.2.2.2.1 bt28.2.2.2.2.2.2.2 bt43.1 bt43.2.1 bt43.2.2.1 bt43.2.2.2.1 bt43.2.2.2.2.1 bt43.2.2.2.2.2.1 bt43.2.2.2.2.2.2.1 bt43.2.2.2.2.2.2.2).bind fun t55 => (q29z.j1 kj4 (t55 != 0) a0_0 a0_1 l0_2 l0_3 a1_0 a1_1 l1_2 l1_3 a1_4 a1_5 a1_6 a1_7 t6 t7 t8 t11 bt14.1 bt14.2.1 bt14.2.2.1 bt14.2.2.2.1 bt14.2.2.2.2.1 bt14.2.2.2.2.2.1 bt14.2.2.2.2.2.2.1 bt14.2.2.2.2.2.2.2)))))))) = some r := H
     have A21 := Aside0.mk A210
     clear A210
     replace H := Option.bind_eq_some_iff.mp H
     obtain ⟨⟨t14, t15, t16, t19, t22, t23, t24, t25⟩, A220, H⟩ := H
     replace H : ((q11z.f kj4 t6 t7 t8 t11 t14 t15 t16 t19 t22 t23 t24 t25).bind fun bt28 => ((q7z.f kj4 t6 t7 t8 t11).bind fun t41 => ((q13z.f kj4 a0_0 a0_1 l0_2 l0_3).bind fun t42 => (if (t41 != t42) = true then (q29z.j1 kj4 true a0_0 a0_1 l0_2 l0_3 a1_0 a1_1 l1_2 l1_3 a1_4 a1_5 a1_6 a1_7 t6 t7 t8 t11 t14 t15 t16 t19 t22 t23 t24 t25) else ((q21z.f kj4 a0_0 a0_1 l0_2 l0_3 a1_0 a1_1 l1_2 l1_3 a1_4 a1_5 a1_6 a1_7).bind fun bt43 => ((q16z.f kj4 bt28.1 bt28.2.1 bt28.2.2.1 bt28.2.2.2.1 bt28.2.2.2.2.1 bt28.2.2.2.2.2.1 bt28.2.2.2.2.2.2.1 bt28.2.2.2.2.2.2.2 bt43.1 bt43.2.1 bt43.2.2.1 bt43.2.2.2.1 bt43.2.2.2.2.1 bt43.2.2.2.2.2.1 bt43.2.2.2.2.2.2.1 bt43.2.2.2.2.2.2.2).bind fun t55 => (q29z.j1 kj4 (t55 != 0) a0_0 a0_1 l0_2 l0_3 a1_0 a1_1 l1_2 l1_3 a1_4 a1_5 a1_6 a1_7 t6 t7 t8 t11 t14 t15 t16 t19 t22 t23 t24 t25))))))) = some r := H
     have A22 := Aside0.mk A220
     clear A220
     replace H := Option.bind_eq_some_iff.mp H
     obtain ⟨⟨t28, t29, t30, t33, t36, t37, t38, t39⟩, A230, H⟩ := H
     replace H : ((q7z.f kj4 t6 t7 t8 t11).bind fun t41 => ((q13z.f kj4 a0_0 a0_1 l0_2 l0_3).bind fun t42 => (if (t41 != t42) = true then (q29z.j1 kj4 true a0_0 a0_1 l0_2 l0_3 a1_0 a1_1 l1_2 l1_3 a1_4 a1_5 a1_6 a1_7 t6 t7 t8 t11 t14 t15 t16 t19 t22 t23 t24 t25) else ((q21z.f kj4 a0_0 a0_1 l0_2 l0_3 a1_0 a1_1 l1_2 l1_3 a1_4 a1_5 a1_6 a1_7).bind fun bt43 => ((q16z.f kj4 t28 t29 t30 t33 t36 t37 t38 t39 bt43.1 bt43.2.1 bt43.2.2.1 bt43.2.2.2.1 bt43.2.2.2.2.1 bt43.2.2.2.2.2.1 bt43.2.2.2.2.2.2.1 bt43.2.2.2.2.2.2.2).bind fun t55 => (q29z.j1 kj4 (t55 != 0) a0_0 a0_1 l0_2 l0_3 a1_0 a1_1 l1_2 l1_3 a1_4 a1_5 a1_6 a1_7 t6 t7 t8 t11 t14 t15 t16 t19 t22 t23 t24 t25)))))) = some r := H
     have A23 := Aside0.mk A230
     clear A230
     have HC24 := Aside0.mk H
     clear H
     try go_wp2
     replace BK1 := Aside0.mk (blk_drew BK1.out)
     replace BK2 := Aside0.mk (blk_drew BK2.out)
     replace HB := Aside0.mk (below_drew1 HB.out)
     refine start_ (n := 8) (S := fun w' => w'.cell? ⟨gb1, 0, none⟩ = some (.int .i64 a0_0) ∧ w'.cell? ⟨gb1, 1, none⟩ = some (.int .u32 a0_1) ∧ w'.cell? ⟨gb1, 2, none⟩ = some (.slice A0_2 l0_2.length c0_2) ∧ w'.cell? ⟨gb1, 3, none⟩ = some (.slice A0_3 l0_3.length c0_3) ∧ w'.cell? ⟨gb2, 0, none⟩ = some (.int .u32 a1_0) ∧ w'.cell? ⟨gb2, 1, none⟩ = some (.int .i64 a1_1) ∧ w'.cell? ⟨gb2, 2, none⟩ = some (.slice A1_2 l1_2.length c1_2) ∧ w'.cell? ⟨gb2, 3, none⟩ = some (.slice A1_3 l1_3.length c1_3) ∧ w'.cell? ⟨gb2, 4, none⟩ = some (.int .u32 a1_4) ∧ w'.cell? ⟨gb2, 5, none⟩ = some (.int .u32 a1_5) ∧ w'.cell? ⟨gb2, 6, none⟩ = some (.int .i64 a1_6) ∧ w'.cell? ⟨gb2, 7, none⟩ = some (.int .u32 a1_7)) (ds := []) #[false, false, false, false, false, false, false, false] (by kernel_rfl) rfl rfl (bk4 BK1 (bl8 BK2)) (fun hHeld => ?_); refine with_tabW q29z.tab5 q29z.bits5 (fun HT_ HW_ => ?_)
     generalize wc.drew = w25 at BK1 BK2 HB hHeld ⊢
     refine take_ (i := 0) (N := some 19) (v := ?_) (a' := ?_) #[true, false, false, false, false, false, false, false] rfl rfl (take_ofW HT_.out HW_.out (by kernel_rfl)) (fun _ _ _ h => h) (Or.inl ⟨by rfl, ?_⟩) hHeld ?_ ?_
     rotate_left
     ·
      rintro w' ⟨s0, s1, s2, s3, s4, s5, s6, s7, s8, s9, s10, s11⟩
      go_simp
      with_reducible rfl
     rotate_left
     ·
      simp only [Act.put, List.setIfInBounds_toArray, List.set_cons_zero, List.set_cons_succ, i64_w, i32_w, IntKind.wrap_u32]
      rfl
     refine take_ (i := 2) (N := some 21) (v := ?_) (a' := ?_) #[true, false, true, false, false, false, false, false] rfl rfl (take_ofW HT_.out HW_.out (by kernel_rfl)) (fun _ _ _ h => h) (Or.inl ⟨by rfl, ?_⟩) hHeld ?_ ?_
     rotate_left
     ·
      rintro w' ⟨s0, s1, s2, s3, s4, s5, s6, s7, s8, s9, s10, s11⟩
      go_simp
      with_reducible rfl
     rotate_left
     ·
      simp only [Act.put, List.setIfInBounds_toArray, List.set_cons_zero, List.set_cons_succ, i64_w, i32_w, IntKind.wrap_u32]
      rfl
     refine join_ (σ := Value × Value × Value × Value × Nat × Nat) 2 #[true, true, true, true, true, true, false, false] (fun s_ => [(20, .agg #[.int .i64 t6, .int .u32 t7, s_.1, s_.2.1]), (22, .agg #[.int .u32 t14, .int .i64 t15, s_.2.2.1, s_.2.2.2.1, .int .u32 t22, .int .u32 t23, .int .i64 t24, .int .u32 t25]), (5, .pointer (some ⟨s_.2.2.2.2.1, 0, none⟩)), (6, .pointer (some ⟨s_.2.2.2.2.2, 0, none⟩))]) (fun s_ w' => (w'.cell? ⟨gb1, 0, none⟩ = some (.int .i64 a0_0) ∧ w'.cell? ⟨gb1, 1, none⟩ = some (.int .u32 a0_1) ∧ w'.cell? ⟨gb1, 2, none⟩ = some (.slice A0_2 l0_2.length c0_2) ∧ w'.cell? ⟨gb1, 3, none⟩ = some (.slice A0_3 l0_3.length c0_3) ∧ w'.cell? ⟨gb2, 0, none⟩ = some (.int .u32 a1_0) ∧ w'.cell? ⟨gb2, 1, none⟩ = some (.int .i64 a1_1) ∧ w'.cell? ⟨gb2, 2, none⟩ = some (.slice A1_2 l1_2.length c1_2) ∧ w'.cell? ⟨gb2, 3, none⟩ = some (.slice A1_3 l1_3.length c1_3) ∧ w'.cell? ⟨gb2, 4, none⟩ = some (.int .u32 a1_4) ∧ w'.cell? ⟨gb2, 5, none⟩ = some (.int .u32 a1_5) ∧ w'.cell? ⟨gb2, 6, none⟩ = some (.int .i64 a1_6) ∧ w'.cell? ⟨gb2, 7, none⟩ = some (.int .u32 a1_7)) ∧ (Kd.R (Kd.int .u32) 22 w' w.heap.size (fun k_ => some k_ ≠ (s_.2.2.1 : Value).ownBlock ∧ some k_ ≠ (s_.2.2.2.1 : Value).ownBlock) s_.1 t8) ∧ (Kd.S k53 53 w' w.heap.size (fun _ => True) s_.2.1 t11) ∧ (Kd.R (Kd.int .u32) 22 w' w.heap.size (fun k_ => some k_ ≠ (s_.1 : Value).ownBlock ∧ some k_ ≠ (s_.2.2.2.1 : Value).ownBlock) s_.2.2.1 t16) ∧ (Kd.R (Kd.int .u32) 22 w' w.heap.size (fun k_ => some k_ ≠ (s_.1 : Value).ownBlock ∧ some k_ ≠ (s_.2.2.1 : Value).ownBlock) s_.2.2.2.1 t19) ∧ (w'.heap[gb1]? = some (.cells #[.int .i64 a0_0, .int .u32 a0_1, .slice A0_2 l0_2.length c0_2, .slice A0_3 l0_3.length c0_3] 26 (0, 0))) ∧ (w'.heap[gb2]? = some (.cells #[.int .u32 a1_0, .int .i64 a1_1, .slice A1_2 l1_2.length c1_2, .slice A1_3 l1_3.length c1_3, .int .u32 a1_4, .int .u32 a1_5, .int .i64 a1_6, .int .u32 a1_7] 30 (0, 0))) ∧ (w'.heap[s_.2.2.2.2.1]? = some (.cells #[.int .i64 0, .int .u32 0, .slice none 0 0, .slice none 0 0] 26 (0, 0))) ∧ (w'.heap[s_.2.2.2.2.2]? = some (.cells #[.int .u32 0, .int .i64 0, .slice none 0 0, .slice none 0 0, .int .u32 0, .int .u32 0, .int .i64 0, .int .u32 0] 30 (0, 0))) ∧ (w.heap.size ≤ s_.2.2.2.2.1) ∧ (w.heap.size ≤ s_.2.2.2.2.1) ∧ (gb1 ≠ s_.2.2.2.2.1) ∧ (s_.2.2.2.2.1 ≠ gb1) ∧ (gb2 ≠ s_.2.2.2.2.1) ∧ (s_.2.2.2.2.1 ≠ gb2) ∧ (s_.2.2.2.2.2 ≠ s_.2.2.2.2.1) ∧ (s_.2.2.2.2.1 ≠ s_.2.2.2.2.2) ∧ (w.heap.size ≤ s_.2.2.2.2.2) ∧ (w.heap.size ≤ s_.2.2.2.2.2) ∧ (gb1 ≠ s_.2.2.2.2.2) ∧ (s_.2.2.2.2.2 ≠ gb1) ∧ (gb2 ≠ s_.2.2.2.2.2) ∧ (s_.2.2.2.2.2 ≠ gb2) ∧ (Below w.heap.size w w')) ?_ ?_
     rotate_left
     ·
      intro hJ1_3_4_5
      refine join_ (σ := Value × Value × Value × Value × Nat) 3 #[true, true, true, true, true, false, false, false] (fun s_ => [(20, .agg #[.int .i64 t6, .int .u32 t7, s_.1, s_.2.1]), (22, .agg #[.int .u32 t14, .int .i64 t15, s_.2.2.1, s_.2.2.2.1, .int .u32 t22, .int .u32 t23, .int .i64 t24, .int .u32 t25]), (5, .pointer (some ⟨s_.2.2.2.2, 0, none⟩))]) (fun s_ w' => (w'.cell? ⟨gb1, 0, none⟩ = some (.int .i64 a0_0) ∧ w'.cell? ⟨gb1, 1, none⟩ = some (.int .u32 a0_1) ∧ w'.cell? ⟨gb1, 2, none⟩ = some (.slice A0_2 l0_2.length c0_2) ∧ w'.cell? ⟨gb1, 3, none⟩ = some (.slice A0_3 l0_3.length c0_3) ∧ w'.cell? ⟨gb2, 0, none⟩ = some (.int .u32 a1_0) ∧ w'.cell? ⟨gb2, 1, none⟩ = some (.int .i64 a1_1) ∧ w'.cell? ⟨gb2, 2, none⟩ = some (.slice A1_2 l1_2.length c1_2) ∧ w'.cell? ⟨gb2, 3, none⟩ = some (.slice A1_3 l1_3.length c1_3) ∧ w'.cell? ⟨gb2, 4, none⟩ = some (.int .u32 a1_4) ∧ w'.cell? ⟨gb2, 5, none⟩ = some (.int .u32 a1_5) ∧ w'.cell? ⟨gb2, 6, none⟩ = some (.int .i64 a1_6) ∧ w'.cell? ⟨gb2, 7, none⟩ = some (.int .u32 a1_7)) ∧ (Kd.R (Kd.int .u32) 22 w' w.heap.size (fun k_ => some k_ ≠ (s_.2.2.1 : Value).ownBlock ∧ some k_ ≠ (s_.2.2.2.1 : Value).ownBlock) s_.1 t8) ∧ (Kd.S k53 53 w' w.heap.size (fun _ => True) s_.2.1 t11) ∧ (Kd.R (Kd.int .u32) 22 w' w.heap.size (fun k_ => some k_ ≠ (s_.1 : Value).ownBlock ∧ some k_ ≠ (s_.2.2.2.1 : Value).ownBlock) s_.2.2.1 t16) ∧ (Kd.R (Kd.int .u32) 22 w' w.heap.size (fun k_ => some k_ ≠ (s_.1 : Value).ownBlock ∧ some k_ ≠ (s_.2.2.1 : Value).ownBlock) s_.2.2.2.1 t19) ∧ (w'.heap[gb1]? = some (.cells #[.int .i64 a0_0, .int .u32 a0_1, .slice A0_2 l0_2.length c0_2, .slice A0_3 l0_3.length c0_3] 26 (0, 0))) ∧ (w'.heap[gb2]? = some (.cells #[.int .u32 a1_0, .int .i64 a1_1, .slice A1_2 l1_2.length c1_2, .slice A1_3 l1_3.length c1_3, .int .u32 a1_4, .int .u32 a1_5, .int .i64 a1_6, .int .u32 a1_7] 30 (0, 0))) ∧ (w'.heap[s_.2.2.2.2]? = some (.cells #[.int .i64 0, .int .u32 0, .slice none 0 0, .slice none 0 0] 26 (0, 0))) ∧ (w.heap.size ≤ s_.2.2.2.2) ∧ (w.heap.size ≤ s_.2.2.2.2) ∧ (gb1 ≠ s_.2.2.2.2) ∧ (s_.2.2.2.2 ≠ gb1) ∧ (gb2 ≠ s_.2.2.2.2) ∧ (s_.2.2.2.2 ≠ gb2) ∧ (Below w.heap.size w w')) ?_ ?_
      rotate_left
      ·
       intro hJ1_3_4
       refine join_ (σ := Value × Value × Value × Value × Nat) 3 #[true, true, true, true, false, true, false, false] (fun s_ => [(20, .agg #[.int .i64 t6, .int .u32 t7, s_.1, s_.2.1]), (22, .agg #[.int .u32 t14, .int .i64 t15, s_.2.2.1, s_.2.2.2.1, .int .u32 t22, .int .u32 t23, .int .i64 t24, .int .u32 t25]), (6, .pointer (some ⟨s_.2.2.2.2, 0, none⟩))]) (fun s_ w' => (w'.cell? ⟨gb1, 0, none⟩ = some (.int .i64 a0_0) ∧ w'.cell? ⟨gb1, 1, none⟩ = some (.int .u32 a0_1) ∧ w'.cell? ⟨gb1, 2, none⟩ = some (.slice A0_2 l0_2.length c0_2) ∧ w'.cell? ⟨gb1, 3, none⟩ = some (.slice A0_3 l0_3.length c0_3) ∧ w'.cell? ⟨gb2, 0, none⟩ = some (.int .u32 a1_0) ∧ w'.cell? ⟨gb2, 1, none⟩ = some (.int .i64 a1_1) ∧ w'.cell? ⟨gb2, 2, none⟩ = some (.slice A1_2 l1_2.length c1_2) ∧ w'.cell? ⟨gb2, 3, none⟩ = some (.slice A1_3 l1_3.length c1_3) ∧ w'.cell? ⟨gb2, 4, none⟩ = some (.int .u32 a1_4) ∧ w'.cell? ⟨gb2, 5, none⟩ = some (.int .u32 a1_5) ∧ w'.cell? ⟨gb2, 6, none⟩ = some (.int .i64 a1_6) ∧ w'.cell? ⟨gb2, 7, none⟩ = some (.int .u32 a1_7)) ∧ (Kd.R (Kd.int .u32) 22 w' w.heap.size (fun k_ => some k_ ≠ (s_.2.2.1 : Value).ownBlock ∧ some k_ ≠ (s_.2.2.2.1 : Value).ownBlock) s_.1 t8) ∧ (Kd.S k53 53 w' w.heap.size (fun _ => True) s_.2.1 t11) ∧ (Kd.R (Kd.int .u32) 22 w' w.heap.size (fun k_ => some k_ ≠ (s_.1 : Value).ownBlock ∧ some k_ ≠ (s_.2.2.2.1 : Value).ownBlock) s_.2.2.1 t16) ∧ (Kd.R (Kd.int .u32) 22 w' w.heap.size (fun k_ => some k_ ≠ (s_.1 : Value).ownBlock ∧ some k_ ≠ (s_.2.2.1 : Value).ownBlock) s_.2.2.2.1 t19) ∧ (w'.heap[gb1]? = some (.cells #[.int .i64 a0_0, .int .u32 a0_1, .slice A0_2 l0_2.length c0_2, .slice A0_3 l0_3.length c0_3] 26 (0, 0))) ∧ (w'.heap[gb2]? = some (.cells #[.int .u32 a1_0, .int .i64 a1_1, .slice A1_2 l1_2.length c1_2, .slice A1_3 l1_3.length c1_3, .int .u32 a1_4, .int .u32 a1_5, .int .i64 a1_6, .int .u32 a1_7] 30 (0, 0))) ∧ (w'.heap[s_.2.2.2.2]? = some (.cells #[.int .u32 0, .int .i64 0, .slice none 0 0, .slice none 0 0, .int .u32 0, .int .u32 0, .int .i64 0, .int .u32 0] 30 (0, 0))) ∧ (w.heap.size ≤ s_.2.2.2.2) ∧ (w.heap.size ≤ s_.2.2.2.2) ∧ (gb1 ≠ s_.2.2.2.2) ∧ (s_.2.2.2.2 ≠ gb1) ∧ (gb2 ≠ s_.2.2.2.2) ∧ (s_.2.2.2.2 ≠ gb2) ∧ (Below w.heap.size w w')) ?_ ?_
       rotate_left
       ·
        intro hJ1_3_5
        refine join_ (σ := Value × Value × Nat × Nat) 3 #[true, true, true, false, true, true, false, false] (fun s_ => [(20, .agg #[.int .i64 t6, .int .u32 t7, s_.1, s_.2.1]), (5, .pointer (some ⟨s_.2.2.1, 0, none⟩)), (6, .pointer (some ⟨s_.2.2.2, 0, none⟩))]) (fun s_ w' => (w'.cell? ⟨gb1, 0, none⟩ = some (.int .i64 a0_0) ∧ w'.cell? ⟨gb1, 1, none⟩ = some (.int .u32 a0_1) ∧ w'.cell? ⟨gb1, 2, none⟩ = some (.slice A0_2 l0_2.length c0_2) ∧ w'.cell? ⟨gb1, 3, none⟩ = some (.slice A0_3 l0_3.length c0_3) ∧ w'.cell? ⟨gb2, 0, none⟩ = some (.int .u32 a1_0) ∧ w'.cell? ⟨gb2, 1, none⟩ = some (.int .i64 a1_1) ∧ w'.cell? ⟨gb2, 2, none⟩ = some (.slice A1_2 l1_2.length c1_2) ∧ w'.cell? ⟨gb2, 3, none⟩ = some (.slice A1_3 l1_3.length c1_3) ∧ w'.cell? ⟨gb2, 4, none⟩ = some (.int .u32 a1_4) ∧ w'.cell? ⟨gb2, 5, none⟩ = some (.int .u32 a1_5) ∧ w'.cell? ⟨gb2, 6, none⟩ = some (.int .i64 a1_6) ∧ w'.cell? ⟨gb2, 7, none⟩ = some (.int .u32 a1_7)) ∧ (Kd.R (Kd.int .u32) 22 w' w.heap.size (fun _ => True) s_.1 t8) ∧ (Kd.S k53 53 w' w.heap.size (fun _ => True) s_.2.1 t11) ∧ (w'.heap[gb1]? = some (.cells #[.int .i64 a0_0, .int .u32 a0_1, .slice A0_2 l0_2.length c0_2, .slice A0_3 l0_3.length c0_3] 26 (0, 0))) ∧ (w'.heap[gb2]? = some (.cells #[.int .u32 a1_0, .int .i64 a1_1, .slice A1_2 l1_2.length c1_2, .slice A1_3 l1_3.length c1_3, .int .u32 a1_4, .int .u32 a1_5, .int .i64 a1_6, .int .u32 a1_7] 30 (0, 0))) ∧ (w'.heap[s_.2.2.1]? = some (.cells #[.int .i64 0, .int .u32 0, .slice none 0 0, .slice none 0 0] 26 (0, 0))) ∧ (w'.heap[s_.2.2.2]? = some (.cells #[.int .u32 0, .int .i64 0, .slice none 0 0, .slice none 0 0, .int .u32 0, .int .u32 0, .int .i64 0, .int .u32 0] 30 (0, 0))) ∧ (w.heap.size ≤ s_.2.2.1) ∧ (w.heap.size ≤ s_.2.2.1) ∧ (gb1 ≠ s_.2.2.1) ∧ (s_.2.2.1 ≠ gb1) ∧ (gb2 ≠ s_.2.2.1) ∧ (s_.2.2.1 ≠ gb2) ∧ (s_.2.2.2 ≠ s_.2.2.1) ∧ (s_.2.2.1 ≠ s_.2.2.2) ∧ (w.heap.size ≤ s_.2.2.2) ∧ (w.heap.size ≤ s_.2.2.2) ∧ (gb1 ≠ s_.2.2.2) ∧ (s_.2.2.2 ≠ gb1) ∧ (gb2 ≠ s_.2.2.2) ∧ (s_.2.2.2 ≠ gb2) ∧ (Below w.heap.size w w')) ?_ ?_
        rotate_left
        ·
         intro hJ1_4_5
         refine join_ (σ := Value × Value × Value × Value) 4 #[true, true, true, true, false, false, false, false] (fun s_ => [(20, .agg #[.int .i64 t6, .int .u32 t7, s_.1, s_.2.1]), (22, .agg #[.int .u32 t14, .int .i64 t15, s_.2.2.1, s_.2.2.2, .int .u32 t22, .int .u32 t23, .int .i64 t24, .int .u32 t25])]) (fun s_ w' => (w'.cell? ⟨gb1, 0, none⟩ = some (.int .i64 a0_0) ∧ w'.cell? ⟨gb1, 1, none⟩ = some (.int .u32 a0_1) ∧ w'.cell? ⟨gb1, 2, none⟩ = some (.slice A0_2 l0_2.length c0_2) ∧ w'.cell? ⟨gb1, 3, none⟩ = some (.slice A0_3 l0_3.length c0_3) ∧ w'.cell? ⟨gb2, 0, none⟩ = some (.int .u32 a1_0) ∧ w'.cell? ⟨gb2, 1, none⟩ = some (.int .i64 a1_1) ∧ w'.cell? ⟨gb2, 2, none⟩ = some (.slice A1_2 l1_2.length c1_2) ∧ w'.cell? ⟨gb2, 3, none⟩ = some (.slice A1_3 l1_3.length c1_3) ∧ w'.cell? ⟨gb2, 4, none⟩ = some (.int .u32 a1_4) ∧ w'.cell? ⟨gb2, 5, none⟩ = some (.int .u32 a1_5) ∧ w'.cell? ⟨gb2, 6, none⟩ = some (.int .i64 a1_6) ∧ w'.cell? ⟨gb2, 7, none⟩ = some (.int .u32 a1_7)) ∧ (Kd.R (Kd.int .u32) 22 w' w.heap.size (fun k_ => some k_ ≠ (s_.2.2.1 : Value).ownBlock ∧ some k_ ≠ (s_.2.2.2 : Value).ownBlock) s_.1 t8) ∧ (Kd.S k53 53 w' w.heap.size (fun _ => True) s_.2.1 t11) ∧ (Kd.R (Kd.int .u32) 22 w' w.heap.size (fun k_ => some k_ ≠ (s_.1 : Value).ownBlock ∧ some k_ ≠ (s_.2.2.2 : Value).ownBlock) s_.2.2.1 t16) ∧ (Kd.R (Kd.int .u32) 22 w' w.heap.size (fun k_ => some k_ ≠ (s_.1 : Value).ownBlock ∧ some k_ ≠ (s_.2.2.1 : Value).ownBlock) s_.2.2.2 t19) ∧ (w'.heap[gb1]? = some (.cells #[.int .i64 a0_0, .int .u32 a0_1, .slice A0_2 l0_2.length c0_2, .slice A0_3 l0_3.length c0_3] 26 (0, 0))) ∧ (w'.heap[gb2]? = some (.cells #[.int .u32 a1_0, .int .i64 a1_1, .slice A1_2 l1_2.length c1_2, .slice A1_3 l1_3.length c1_3, .int .u32 a1_4, .int .u32 a1_5, .int .i64 a1_6, .int .u32 a1_7] 30 (0, 0))) ∧ (Below w.heap.size w w')) ?_ ?_
         rotate_left
         ·
          intro hJ1_3
          refine join_ (σ := Value × Value × Nat) 4 #[true, true, true, false, true, false, false, false] (fun s_ => [(20, .agg #[.int .i64 t6, .int .u32 t7, s_.1, s_.2.1]), (5, .pointer (some ⟨s_.2.2, 0, none⟩))]) (fun s_ w' => (w'.cell? ⟨gb1, 0, none⟩ = some (.int .i64 a0_0) ∧ w'.cell? ⟨gb1, 1, none⟩ = some (.int .u32 a0_1) ∧ w'.cell? ⟨gb1, 2, none⟩ = some (.slice A0_2 l0_2.length c0_2) ∧ w'.cell? ⟨gb1, 3, none⟩ = some (.slice A0_3 l0_3.length c0_3) ∧ w'.cell? ⟨gb2, 0, none⟩ = some (.int .u32 a1_0) ∧ w'.cell? ⟨gb2, 1, none⟩ = some (.int .i64 a1_1) ∧ w'.cell? ⟨gb2, 2, none⟩ = some (.slice A1_2 l1_2.length c1_2) ∧ w'.cell? ⟨gb2, 3, none⟩ = some (.slice A1_3 l1_3.length c1_3) ∧ w'.cell? ⟨gb2, 4, none⟩ = some (.int .u32 a1_4) ∧ w'.cell? ⟨gb2, 5, none⟩ = some (.int .u32 a1_5) ∧ w'.cell? ⟨gb2, 6, none⟩ = some (.int .i64 a1_6) ∧ w'.cell? ⟨gb2, 7, none⟩ = some (.int .u32 a1_7)) ∧ (Kd.R (Kd.int .u32) 22 w' w.heap.size (fun _ => True) s_.1 t8) ∧ (Kd.S k53 53 w' w.heap.size (fun _ => True) s_.2.1 t11) ∧ (w'.heap[gb1]? = some (.cells #[.int .i64 a0_0, .int .u32 a0_1, .slice A0_2 l0_2.length c0_2, .slice A0_3 l0_3.length c0_3] 26 (0, 0))) ∧ (w'.heap[gb2]? = some (.cells #[.int .u32 a1_0, .int .i64 a1_1, .slice A1_2 l1_2.length c1_2, .slice A1_3 l1_3.length c1_3, .int .u32 a1_4, .int .u32 a1_5, .int .i64 a1_6, .int .u32 a1_7] 30 (0, 0))) ∧ (w'.heap[s_.2.2]? = some (.cells #[.int .i64 0, .int .u32 0, .slice none 0 0, .slice none 0 0] 26 (0, 0))) ∧ (w.heap.size ≤ s_.2.2) ∧ (w.heap.size ≤ s_.2.2) ∧ (gb1 ≠ s_.2.2) ∧ (s_.2.2 ≠ gb1) ∧ (gb2 ≠ s_.2.2) ∧ (s_.2.2 ≠ gb2) ∧ (Below w.heap.size w w')) ?_ ?_
          rotate_left
          ·
           intro hJ1_4
           refine join_ (σ := Value × Value × Nat) 4 #[true, true, true, false, false, true, false, false] (fun s_ => [(20, .agg #[.int .i64 t6, .int .u32 t7, s_.1, s_.2.1]), (6, .pointer (some ⟨s_.2.2, 0, none⟩))]) (fun s_ w' => (w'.cell? ⟨gb1, 0, none⟩ = some (.int .i64 a0_0) ∧ w'.cell? ⟨gb1, 1, none⟩ = some (.int .u32 a0_1) ∧ w'.cell? ⟨gb1, 2, none⟩ = some (.slice A0_2 l0_2.length c0_2) ∧ w'.cell? ⟨gb1, 3, none⟩ = some (.slice A0_3 l0_3.length c0_3) ∧ w'.cell? ⟨gb2, 0, none⟩ = some (.int .u32 a1_0) ∧ w'.cell? ⟨gb2, 1, none⟩ = some (.int .i64 a1_1) ∧ w'.cell? ⟨gb2, 2, none⟩ = some (.slice A1_2 l1_2.length c1_2) ∧ w'.cell? ⟨gb2, 3, none⟩ = some (.slice A1_3 l1_3.length c1_3) ∧ w'.cell? ⟨gb2, 4, none⟩ = some (.int .u32 a1_4) ∧ w'.cell? ⟨gb2, 5, none⟩ = some (.int .u32 a1_5) ∧ w'.cell? ⟨gb2, 6, none⟩ = some (.int .i64 a1_6) ∧ w'.cell? ⟨gb2, 7, none⟩ = some (.int .u32 a1_7)) ∧ (Kd.R (Kd.int .u32) 22 w' w.heap.size (fun _ => True) s_.1 t8) ∧ (Kd.S k53 53 w' w.heap.size (fun _ => True) s_.2.1 t11) ∧ (w'.heap[gb1]? = some (.cells #[.int .i64 a0_0, .int .u32 a0_1, .slice A0_2 l0_2.length c0_2, .slice A0_3 l0_3.length c0_3] 26 (0, 0))) ∧ (w'.heap[gb2]? = some (.cells #[.int .u32 a1_0, .int .i64 a1_1, .slice A1_2 l1_2.length c1_2, .slice A1_3 l1_3.length c1_3, .int .u32 a1_4, .int .u32 a1_5, .int .i64 a1_6, .int .u32 a1_7] 30 (0, 0))) ∧ (w'.heap[s_.2.2]? = some (.cells #[.int .u32 0, .int .i64 0, .slice none 0 0, .slice none 0 0, .int .u32 0, .int .u32 0, .int .i64 0, .int .u32 0] 30 (0, 0))) ∧ (w.heap.size ≤ s_.2.2) ∧ (w.heap.size ≤ s_.2.2) ∧ (gb1 ≠ s_.2.2) ∧ (s_.2.2 ≠ gb1) ∧ (gb2 ≠ s_.2.2) ∧ (s_.2.2 ≠ gb2) ∧ (Below w.heap.size w w')) ?_ ?_
           rotate_left
           ·
            intro hJ1_5
            refine join_ (σ := Nat × Nat) 4 #[true, false, true, false, true, true, false, false] (fun s_ => [(5, .pointer (some ⟨s_.1, 0, none⟩)), (6, .pointer (some ⟨s_.2, 0, none⟩))]) (fun s_ w' => (w'.cell? ⟨gb1, 0, none⟩ = some (.int .i64 a0_0) ∧ w'.cell? ⟨gb1, 1, none⟩ = some (.int .u32 a0_1) ∧ w'.cell? ⟨gb1, 2, none⟩ = some (.slice A0_2 l0_2.length c0_2) ∧ w'.cell? ⟨gb1, 3, none⟩ = some (.slice A0_3 l0_3.length c0_3) ∧ w'.cell? ⟨gb2, 0, none⟩ = some (.int .u32 a1_0) ∧ w'.cell? ⟨gb2, 1, none⟩ = some (.int .i64 a1_1) ∧ w'.cell? ⟨gb2, 2, none⟩ = some (.slice A1_2 l1_2.length c1_2) ∧ w'.cell? ⟨gb2, 3, none⟩ = some (.slice A1_3 l1_3.length c1_3) ∧ w'.cell? ⟨gb2, 4, none⟩ = some (.int .u32 a1_4) ∧ w'.cell? ⟨gb2, 5, none⟩ = some (.int .u32 a1_5) ∧ w'.cell? ⟨gb2, 6, none⟩ = some (.int .i64 a1_6) ∧ w'.cell? ⟨gb2, 7, none⟩ = some (.int .u32 a1_7)) ∧ (w'.heap[gb1]? = some (.cells #[.int .i64 a0_0, .int .u32 a0_1, .slice A0_2 l0_2.length c0_2, .slice A0_3 l0_3.length c0_3] 26 (0, 0))) ∧ (w'.heap[gb2]? = some (.cells #[.int .u32 a1_0, .int .i64 a1_1, .slice A1_2 l1_2.length c1_2, .slice A1_3 l1_3.length c1_3, .int .u32 a1_4, .int .u32 a1_5, .int .i64 a1_6, .int .u32 a1_7] 30 (0, 0))) ∧ (w'.heap[s_.1]? = some (.cells #[.int .i64 0, .int .u32 0, .slice none 0 0, .slice none 0 0] 26 (0, 0))) ∧ (w'.heap[s_.2]? = some (.cells #[.int .u32 0, .int .i64 0, .slice none 0 0, .slice none 0 0, .int .u32 0, .int .u32 0, .int .i64 0, .int .u32 0] 30 (0, 0))) ∧ (w.heap.size ≤ s_.1) ∧ (w.heap.size ≤ s_.1) ∧ (gb1 ≠ s_.1) ∧ (s_.1 ≠ gb1) ∧ (gb2 ≠ s_.1) ∧ (s_.1 ≠ gb2) ∧ (s_.2 ≠ s_.1) ∧ (s_.1 ≠ s_.2) ∧ (w.heap.size ≤ s_.2) ∧ (w.heap.size ≤ s_.2) ∧ (gb1 ≠ s_.2) ∧ (s_.2 ≠ gb1) ∧ (gb2 ≠ s_.2) ∧ (s_.2 ≠ gb2) ∧ (Below w.heap.size w w')) ?_ ?_
            rotate_left
            ·
             intro hJ4_5
             refine join_ (σ := Value × Value) 5 #[true, true, true, false, false, false, false, false] (fun s_ => [(20, .agg #[.int .i64 t6, .int .u32 t7, s_.1, s_.2])]) (fun s_ w' => (w'.cell? ⟨gb1, 0, none⟩ = some (.int .i64 a0_0) ∧ w'.cell? ⟨gb1, 1, none⟩ = some (.int .u32 a0_1) ∧ w'.cell? ⟨gb1, 2, none⟩ = some (.slice A0_2 l0_2.length c0_2) ∧ w'.cell? ⟨gb1, 3, none⟩ = some (.slice A0_3 l0_3.length c0_3) ∧ w'.cell? ⟨gb2, 0, none⟩ = some (.int .u32 a1_0) ∧ w'.cell? ⟨gb2, 1, none⟩ = some (.int .i64 a1_1) ∧ w'.cell? ⟨gb2, 2, none⟩ = some (.slice A1_2 l1_2.length c1_2) ∧ w'.cell? ⟨gb2, 3, none⟩ = some (.slice A1_3 l1_3.length c1_3) ∧ w'.cell? ⟨gb2, 4, none⟩ = some (.int .u32 a1_4) ∧ w'.cell? ⟨gb2, 5, none⟩ = some (.int .u32 a1_5) ∧ w'.cell? ⟨gb2, 6, none⟩ = some (.int .i64 a1_6) ∧ w'.cell? ⟨gb2, 7, none⟩ = some (.int .u32 a1_7)) ∧ (Kd.R (Kd.int .u32) 22 w' w.heap.size (fun _ => True) s_.1 t8) ∧ (Kd.S k53 53 w' w.heap.size (fun _ => True) s_.2 t11) ∧ (w'.heap[gb1]? = some (.cells #[.int .i64 a0_0, .int .u32 a0_1, .slice A0_2 l0_2.length c0_2, .slice A0_3 l0_3.length c0_3] 26 (0, 0))) ∧ (w'.heap[gb2]? = some (.cells #[.int .u32 a1_0, .int .i64 a1_1, .slice A1_2 l1_2.length c1_2, .slice A1_3 l1_3.length c1_3, .int .u32 a1_4, .int .u32 a1_5, .int .i64 a1_6, .int .u32 a1_7] 30 (0, 0))) ∧ (Below w.heap.size w w')) ?_ ?_
             rotate_left
             ·
              intro hJ1
              refine join_ (σ := Nat) 5 #[true, false, true, false, true, false, false, false] (fun s_ => [(5, .pointer (some ⟨s_, 0, none⟩))]) (fun s_ w' => (w'.cell? ⟨gb1, 0, none⟩ = some (.int .i64 a0_0) ∧ w'.cell? ⟨gb1, 1, none⟩ = some (.int .u32 a0_1) ∧ w'.cell? ⟨gb1, 2, none⟩ = some (.slice A0_2 l0_2.length c0_2) ∧ w'.cell? ⟨gb1, 3, none⟩ = some (.slice A0_3 l0_3.length c0_3) ∧ w'.cell? ⟨gb2, 0, none⟩ = some (.int .u32 a1_0) ∧ w'.cell? ⟨gb2, 1, none⟩ = some (.int .i64 a1_1) ∧ w'.cell? ⟨gb2, 2, none⟩ = some (.slice A1_2 l1_2.length c1_2) ∧ w'.cell? ⟨gb2, 3, none⟩ = some (.slice A1_3 l1_3.length c1_3) ∧ w'.cell? ⟨gb2, 4, none⟩ = some (.int .u32 a1_4) ∧ w'.cell? ⟨gb2, 5, none⟩ = some (.int .u32 a1_5) ∧ w'.cell? ⟨gb2, 6, none⟩ = some (.int .i64 a1_6) ∧ w'.cell? ⟨gb2, 7, none⟩ = some (.int .u32 a1_7)) ∧ (w'.heap[gb1]? = some (.cells #[.int .i64 a0_0, .int .u32 a0_1, .slice A0_2 l0_2.length c0_2, .slice A0_3 l0_3.length c0_3] 26 (0, 0))) ∧ (w'.heap[gb2]? = some (.cells #[.int .u32 a1_0, .int .i64 a1_1, .slice A1_2 l1_2.length c1_2, .slice A1_3 l1_3.length c1_3, .int .u32 a1_4, .int .u32 a1_5, .int .i64 a1_6, .int .u32 a1_7] 30 (0, 0))) ∧ (w'.heap[s_]? = some (.cells #[.int .i64 0, .int .u32 0, .slice none 0 0, .slice none 0 0] 26 (0, 0))) ∧ (w.heap.size ≤ s_) ∧ (w.heap.size ≤ s_) ∧ (gb1 ≠ s_) ∧ (s_ ≠ gb1) ∧ (gb2 ≠ s_) ∧ (s_ ≠ gb2) ∧ (Below w.heap.size w w')) ?_ ?_
              rotate_left
              ·
               intro hJ4
               refine join_ (σ := Nat) 5 #[true, false, true, false, false, true, false, false] (fun s_ => [(6, .pointer (some ⟨s_, 0, none⟩))]) (fun s_ w' => (w'.cell? ⟨gb1, 0, none⟩ = some (.int .i64 a0_0) ∧ w'.cell? ⟨gb1, 1, none⟩ = some (.int .u32 a0_1) ∧ w'.cell? ⟨gb1, 2, none⟩ = some (.slice A0_2 l0_2.length c0_2) ∧ w'.cell? ⟨gb1, 3, none⟩ = some (.slice A0_3 l0_3.length c0_3) ∧ w'.cell? ⟨gb2, 0, none⟩ = some (.int .u32 a1_0) ∧ w'.cell? ⟨gb2, 1, none⟩ = some (.int .i64 a1_1) ∧ w'.cell? ⟨gb2, 2, none⟩ = some (.slice A1_2 l1_2.length c1_2) ∧ w'.cell? ⟨gb2, 3, none⟩ = some (.slice A1_3 l1_3.length c1_3) ∧ w'.cell? ⟨gb2, 4, none⟩ = some (.int .u32 a1_4) ∧ w'.cell? ⟨gb2, 5, none⟩ = some (.int .u32 a1_5) ∧ w'.cell? ⟨gb2, 6, none⟩ = some (.int .i64 a1_6) ∧ w'.cell? ⟨gb2, 7, none⟩ = some (.int .u32 a1_7)) ∧ (w'.heap[gb1]? = some (.cells #[.int .i64 a0_0, .int .u32 a0_1, .slice A0_2 l0_2.length c0_2, .slice A0_3 l0_3.length c0_3] 26 (0, 0))) ∧ (w'.heap[gb2]? = some (.cells #[.int .u32 a1_0, .int .i64 a1_1, .slice A1_2 l1_2.length c1_2, .slice A1_3 l1_3.length c1_3, .int .u32 a1_4, .int .u32 a1_5, .int .i64 a1_6, .int .u32 a1_7] 30 (0, 0))) ∧ (w'.heap[s_]? = some (.cells #[.int .u32 0, .int .i64 0, .slice none 0 0, .slice none 0 0, .int .u32 0, .int .u32 0, .int .i64 0, .int .u32 0] 30 (0, 0))) ∧ (w.heap.size ≤ s_) ∧ (w.heap.size ≤ s_) ∧ (gb1 ≠ s_) ∧ (s_ ≠ gb1) ∧ (gb2 ≠ s_) ∧ (s_ ≠ gb2) ∧ (Below w.heap.size w w')) ?_ ?_
               rotate_left
               ·
                intro hJ5
                refine three_ (i := 1) (j := 4) (k := 5) (Ni := some 20) (Nj := some 5) (Nk := some 6) #[true, true, true, false, false, false, false, false] #[true, false, true, false, true, false, false, false] #[true, false, true, false, false, true, false, false] rfl rfl rfl rfl rfl rfl (three_of HT_.out (by kernel_rfl)) (by decide) (by decide) (by decide) (fun K hK => ?_) (fun K hK => ?_) (fun K hK => ?_)
                ·
                 skip
                 refine goes_ Try.func11 (by kernel_rfl) rfl #[.agg #[.int .i64 a0_0, .int .u32 a0_1, .slice A0_2 l0_2.length c0_2, .slice A0_3 l0_3.length c0_3]] (by rfl) rfl rfl (by (try simp only [List.map_toArray, List.map_cons, List.map_nil]); first | done | rfl | (simp only [List.length_drop, List.length_take]; rfl)) ?_
                 with_reducible refine (q3z.calls kj4 a0_0 a0_1 _ _ l0_2 _ _ l0_3 t6 t7 t8 t11 _ ?side1 ?side2 ?side3 ?side4 A21.out).mono ?_
                 (case side1 => repeat (first | exact (Kd.C_below HR0_2.out HB.out) | (with_reducible refine Kd.C_alloc ?_ _) | (with_reducible refine Kd.C_drewN ?_ _) | (with_reducible refine Kd.C_drew ?_)))
                 (case side2 => exact HC0_2.out)
                 (case side3 => repeat (first | exact (Kd.C_below HR0_3.out HB.out) | (with_reducible refine Kd.C_alloc ?_ _) | (with_reducible refine Kd.C_drewN ?_ _) | (with_reducible refine Kd.C_drew ?_)))
                 (case side4 => exact HC0_3.out)
                 rintro e w26 ⟨v9, v12, rfl, ho0, ho1, hb⟩
                 refine ⟨_, rfl, ?_⟩
                 have HO10 := Aside0.mk (Kd.R_lower ho0 (below_size (hbW HB)))
                 have HO13 := Aside0.mk (Kd.S_lower ho1 (below_size (hbW HB)))
                 replace BK1 := bkB BK1 hb
                 replace BK2 := bkB BK2 hb
                 replace HB := hbS HB hb
                 (try clear hb)
                 (try clear ho0)
                 (try clear ho1)
                 refine hK.out _ _ (bk4 BK1 (bl8 BK2)) (fun hHeld => ?_)
                 clear hK K
                 refine norm_ (a' := ?_) ?_ ?_
                 rotate_left
                 ·
                  show Act.put _ (some 20) _ = _
                  simp only [Act.put, List.setIfInBounds_toArray, List.set_cons_zero, List.set_cons_succ, i64_w, i32_w, IntKind.wrap_u32]
                  rfl
                 exact norm_ (by first | (simp only [putAll, Act.put, List.setIfInBounds_toArray, List.set_cons_zero, List.set_cons_succ]; done) | (simp only [putAll, Act.put, List.setIfInBounds_toArray, List.set_cons_zero, List.set_cons_succ]; rfl)) (hJ1 (v9, v12) _ ⟨hHeld, (rW HO10), (by (with_reducible repeat (first | apply Kd.S_alloc | apply Kd.S_drewN | apply Kd.S_drew)); exact HO13.out), (bkW BK1), (bkW BK2), (hbW HB)⟩)
                ·
                 skip
                 refine box_step ?hg (N := 5) ?hd (cs := #[.int .i64 0, .int .u32 0, .slice none 0 0, .slice none 0 0]) (t := 26) ?hr ?_; (case hd => rfl); (case hg => rfl); (case hr => first | (go_simp; done) | (go_simp; rfl))
                 intro gb26 hg w26 hbox hb
                 have BK26 := Aside0.mk (hbox)
                 have GW26 := gwS hg HB
                 have GE26 := gwS hg HB
                 have NB1_26 := nbL hg BK1
                 have NB26_1 := nbG hg BK1
                 have NB2_26 := nbL hg BK2
                 have NB26_2 := nbG hg BK2
                 replace BK1 := bkB BK1 hb
                 replace BK2 := bkB BK2 hb
                 replace HB := hbS HB hb
                 clear hb hbox hg
                 refine hK.out _ _ (bk4 BK1 (bl8 BK2)) (fun hHeld => ?_)
                 clear hK K
                 refine norm_ (a' := ?_) ?_ ?_
                 rotate_left
                 ·
                  show Act.put _ (some 5) _ = _
                  simp only [Act.put, List.setIfInBounds_toArray, List.set_cons_zero, List.set_cons_succ, i64_w, i32_w, IntKind.wrap_u32]
                  rfl
                 exact norm_ (by first | (simp only [putAll, Act.put, List.setIfInBounds_toArray, List.set_cons_zero, List.set_cons_succ]; done) | (simp only [putAll, Act.put, List.setIfInBounds_toArray, List.set_cons_zero, List.set_cons_succ]; rfl)) (hJ4 (gb26) _ ⟨hHeld, (bkW BK1), (bkW BK2), (bkW BK26), GW26.out, GE26.out, NB1_26.out, NB26_1.out, NB2_26.out, NB26_2.out, (hbW HB)⟩)
                ·
                 skip
                 refine box_step ?hg (N := 6) ?hd (cs := #[.int .u32 0, .int .i64 0, .slice none 0 0, .slice none 0 0, .int .u32 0, .int .u32 0, .int .i64 0, .int .u32 0]) (t := 30) ?hr ?_; (case hd => rfl); (case hg => rfl); (case hr => first | (go_simp; done) | (go_simp; rfl))
                 intro gb27 hg w26 hbox hb
                 have BK27 := Aside0.mk (hbox)
                 have GW27 := gwS hg HB
                 have GE27 := gwS hg HB
                 have NB1_27 := nbL hg BK1
                 have NB27_1 := nbG hg BK1
                 have NB2_27 := nbL hg BK2
                 have NB27_2 := nbG hg BK2
                 replace BK1 := bkB BK1 hb
                 replace BK2 := bkB BK2 hb
                 replace HB := hbS HB hb
                 clear hb hbox hg
                 refine hK.out _ _ (bk4 BK1 (bl8 BK2)) (fun hHeld => ?_)
                 clear hK K
                 refine norm_ (a' := ?_) ?_ ?_
                 rotate_left
                 ·
                  show Act.put _ (some 6) _ = _
                  simp only [Act.put, List.setIfInBounds_toArray, List.set_cons_zero, List.set_cons_succ, i64_w, i32_w, IntKind.wrap_u32]
                  rfl
                 exact norm_ (by first | (simp only [putAll, Act.put, List.setIfInBounds_toArray, List.set_cons_zero, List.set_cons_succ]; done) | (simp only [putAll, Act.put, List.setIfInBounds_toArray, List.set_cons_zero, List.set_cons_succ]; rfl)) (hJ5 (gb27) _ ⟨hHeld, (bkW BK1), (bkW BK2), (bkW BK27), GW27.out, GE27.out, NB1_27.out, NB27_1.out, NB2_27.out, NB27_2.out, (hbW HB)⟩)
               ·
                skip
                rintro gb27 w27 ⟨hS_, h0_, h1_, h2_, h3_, h4_, h5_, h6_, h7_, h8_, h9_⟩
                have n0_ : Aside0 (w27.heap[gb1]? = some (.cells #[.int .i64 a0_0, .int .u32 a0_1, .slice A0_2 l0_2.length c0_2, .slice A0_3 l0_3.length c0_3] 26 (0, 0))) := ⟨h0_⟩
                have n1_ : Aside0 (w27.heap[gb2]? = some (.cells #[.int .u32 a1_0, .int .i64 a1_1, .slice A1_2 l1_2.length c1_2, .slice A1_3 l1_3.length c1_3, .int .u32 a1_4, .int .u32 a1_5, .int .i64 a1_6, .int .u32 a1_7] 30 (0, 0))) := ⟨h1_⟩
                have n2_ : Aside0 (w27.heap[gb27]? = some (.cells #[.int .u32 0, .int .i64 0, .slice none 0 0, .slice none 0 0, .int .u32 0, .int .u32 0, .int .i64 0, .int .u32 0] 30 (0, 0))) := ⟨h2_⟩
                have n3_ : Aside0 (w.heap.size ≤ gb27) := ⟨h3_⟩
                have n4_ : Aside0 (w.heap.size ≤ gb27) := ⟨h4_⟩
                have n5_ : Aside0 (gb1 ≠ gb27) := ⟨h5_⟩
                have n6_ : Aside0 (gb27 ≠ gb1) := ⟨h6_⟩
                have n7_ : Aside0 (gb2 ≠ gb27) := ⟨h7_⟩
                have n8_ : Aside0 (gb27 ≠ gb2) := ⟨h8_⟩
                have n9_ : Aside0 (Below w.heap.size w w27) := ⟨h9_⟩
                clear BK1 BK2 HB h0_ h1_ h2_ h3_ h4_ h5_ h6_ h7_ h8_ h9_
                have BK1 := n0_
                have BK2 := n1_
                have BK27 := n2_
                have GW27 := n3_
                have GE27 := n4_
                have NB1_27 := n5_
                have NB27_1 := n6_
                have NB2_27 := n7_
                have NB27_2 := n8_
                have HB := n9_
                clear n0_ n1_ n2_ n3_ n4_ n5_ n6_ n7_ n8_ n9_
                have hHeld : w27.cell? ⟨gb1, 0, none⟩ = some (.int .i64 a0_0) ∧ w27.cell? ⟨gb1, 1, none⟩ = some (.int .u32 a0_1) ∧ w27.cell? ⟨gb1, 2, none⟩ = some (.slice A0_2 l0_2.length c0_2) ∧ w27.cell? ⟨gb1, 3, none⟩ = some (.slice A0_3 l0_3.length c0_3) ∧ w27.cell? ⟨gb2, 0, none⟩ = some (.int .u32 a1_0) ∧ w27.cell? ⟨gb2, 1, none⟩ = some (.int .i64 a1_1) ∧ w27.cell? ⟨gb2, 2, none⟩ = some (.slice A1_2 l1_2.length c1_2) ∧ w27.cell? ⟨gb2, 3, none⟩ = some (.slice A1_3 l1_3.length c1_3) ∧ w27.cell? ⟨gb2, 4, none⟩ = some (.int .u32 a1_4) ∧ w27.cell? ⟨gb2, 5, none⟩ = some (.int .u32 a1_5) ∧ w27.cell? ⟨gb2, 6, none⟩ = some (.int .i64 a1_6) ∧ w27.cell? ⟨gb2, 7, none⟩ = some (.int .u32 a1_7) := hS_
                refine norm_ (a' := ?_) ?_ ?_
                rotate_left
                ·
                 simp only [putAll, Act.put, List.setIfInBounds_toArray, List.set_cons_zero, List.set_cons_succ]
                 rfl
                refine two_ (i := 1) (j := 4) (Ni := some 20) (Nj := some 5) #[true, true, true, false, false, true, false, false] #[true, false, true, false, true, true, false, false] rfl rfl rfl rfl (two_of HT_.out (by kernel_rfl)) (by decide) (by decide) (fun K hK => ?_) (fun K hK => ?_)
                ·
                 skip
                 refine goes_ Try.func11 (by kernel_rfl) rfl #[.agg #[.int .i64 a0_0, .int .u32 a0_1, .slice A0_2 l0_2.length c0_2, .slice A0_3 l0_3.length c0_3]] (by rfl) rfl rfl (by (try simp only [List.map_toArray, List.map_cons, List.map_nil]); first | done | rfl | (simp only [List.length_drop, List.length_take]; rfl)) ?_
                 with_reducible refine (q3z.calls kj4 a0_0 a0_1 _ _ l0_2 _ _ l0_3 t6 t7 t8 t11 _ ?side1 ?side2 ?side3 ?side4 A21.out).mono ?_
                 (case side1 => repeat (first | exact (Kd.C_below HR0_2.out HB.out) | (with_reducible refine Kd.C_alloc ?_ _) | (with_reducible refine Kd.C_drewN ?_ _) | (with_reducible refine Kd.C_drew ?_)))
                 (case side2 => exact HC0_2.out)
                 (case side3 => repeat (first | exact (Kd.C_below HR0_3.out HB.out) | (with_reducible refine Kd.C_alloc ?_ _) | (with_reducible refine Kd.C_drewN ?_ _) | (with_reducible refine Kd.C_drew ?_)))
                 (case side4 => exact HC0_3.out)
                 rintro e w28 ⟨v9, v12, rfl, ho0, ho1, hb⟩
                 refine ⟨_, rfl, ?_⟩
                 have HO10 := Aside0.mk (Kd.R_lower ho0 (below_size (hbW HB)))
                 have HO13 := Aside0.mk (Kd.S_lower ho1 (below_size (hbW HB)))
                 replace BK1 := bkB BK1 hb
                 replace BK2 := bkB BK2 hb
                 replace BK27 := bkB BK27 hb
                 replace HB := hbS HB hb
                 (try clear hb)
                 (try clear ho0)
                 (try clear ho1)
                 refine hK.out _ _ (bk4 BK1 (bl8 BK2)) (fun hHeld => ?_)
                 clear hK K
                 refine norm_ (a' := ?_) ?_ ?_
                 rotate_left
                 ·
                  show Act.put _ (some 20) _ = _
                  simp only [Act.put, List.setIfInBounds_toArray, List.set_cons_zero, List.set_cons_succ, i64_w, i32_w, IntKind.wrap_u32]
                  rfl
                 exact norm_ (by first | (simp only [putAll, Act.put, List.setIfInBounds_toArray, List.set_cons_zero, List.set_cons_succ]; done) | (simp only [putAll, Act.put, List.setIfInBounds_toArray, List.set_cons_zero, List.set_cons_succ]; rfl)) (hJ1_5 (v9, v12, gb27) _ ⟨hHeld, (rW HO10), (by (with_reducible repeat (first | apply Kd.S_alloc | apply Kd.S_drewN | apply Kd.S_drew)); exact HO13.out), (bkW BK1), (bkW BK2), (bkW BK27), GW27.out, GE27.out, NB1_27.out, NB27_1.out, NB2_27.out, NB27_2.out, (hbW HB)⟩)
                ·
                 skip
                 refine box_step ?hg (N := 5) ?hd (cs := #[.int .i64 0, .int .u32 0, .slice none 0 0, .slice none 0 0]) (t := 26) ?hr ?_; (case hd => rfl); (case hg => rfl); (case hr => first | (go_simp; done) | (go_simp; rfl))
                 intro gb26 hg w28 hbox hb
                 have BK26 := Aside0.mk (hbox)
                 have GW26 := gwS hg HB
                 have GE26 := gwS hg HB
                 have NB1_26 := nbL hg BK1
                 have NB26_1 := nbG hg BK1
                 have NB2_26 := nbL hg BK2
                 have NB26_2 := nbG hg BK2
                 have NB27_26 := nbL hg BK27
                 have NB26_27 := nbG hg BK27
                 replace BK1 := bkB BK1 hb
                 replace BK2 := bkB BK2 hb
                 replace BK27 := bkB BK27 hb
                 replace HB := hbS HB hb
                 clear hb hbox hg
                 refine hK.out _ _ (bk4 BK1 (bl8 BK2)) (fun hHeld => ?_)
                 clear hK K
                 refine norm_ (a' := ?_) ?_ ?_
                 rotate_left
                 ·
                  show Act.put _ (some 5) _ = _
                  simp only [Act.put, List.setIfInBounds_toArray, List.set_cons_zero, List.set_cons_succ, i64_w, i32_w, IntKind.wrap_u32]
                  rfl
                 exact norm_ (by first | (simp only [putAll, Act.put, List.setIfInBounds_toArray, List.set_cons_zero, List.set_cons_succ]; done) | (simp only [putAll, Act.put, List.setIfInBounds_toArray, List.set_cons_zero, List.set_cons_succ]; rfl)) (hJ4_5 (gb26, gb27) _ ⟨hHeld, (bkW BK1), (bkW BK2), (bkW BK26), (bkW BK27), GW26.out, GE26.out, NB1_26.out, NB26_1.out, NB2_26.out, NB26_2.out, NB27_26.out, NB26_27.out, GW27.out, GE27.out, NB1_27.out, NB27_1.out, NB2_27.out, NB27_2.out, (hbW HB)⟩)
              ·
               skip
               rintro gb26 w27 ⟨hS_, h0_, h1_, h2_, h3_, h4_, h5_, h6_, h7_, h8_, h9_⟩
               have n0_ : Aside0 (w27.heap[gb1]? = some (.cells #[.int .i64 a0_0, .int .u32 a0_1, .slice A0_2 l0_2.length c0_2, .slice A0_3 l0_3.length c0_3] 26 (0, 0))) := ⟨h0_⟩
               have n1_ : Aside0 (w27.heap[gb2]? = some (.cells #[.int .u32 a1_0, .int .i64 a1_1, .slice A1_2 l1_2.length c1_2, .slice A1_3 l1_3.length c1_3, .int .u32 a1_4, .int .u32 a1_5, .int .i64 a1_6, .int .u32 a1_7] 30 (0, 0))) := ⟨h1_⟩
               have n2_ : Aside0 (w27.heap[gb26]? = some (.cells #[.int .i64 0, .int .u32 0, .slice none 0 0, .slice none 0 0] 26 (0, 0))) := ⟨h2_⟩
               have n3_ : Aside0 (w.heap.size ≤ gb26) := ⟨h3_⟩
               have n4_ : Aside0 (w.heap.size ≤ gb26) := ⟨h4_⟩
               have n5_ : Aside0 (gb1 ≠ gb26) := ⟨h5_⟩
               have n6_ : Aside0 (gb26 ≠ gb1) := ⟨h6_⟩
               have n7_ : Aside0 (gb2 ≠ gb26) := ⟨h7_⟩
               have n8_ : Aside0 (gb26 ≠ gb2) := ⟨h8_⟩
               have n9_ : Aside0 (Below w.heap.size w w27) := ⟨h9_⟩
               clear BK1 BK2 HB h0_ h1_ h2_ h3_ h4_ h5_ h6_ h7_ h8_ h9_
               have BK1 := n0_
               have BK2 := n1_
               have BK26 := n2_
               have GW26 := n3_
               have GE26 := n4_
               have NB1_26 := n5_
               have NB26_1 := n6_
               have NB2_26 := n7_
               have NB26_2 := n8_
               have HB := n9_
               clear n0_ n1_ n2_ n3_ n4_ n5_ n6_ n7_ n8_ n9_
               have hHeld : w27.cell? ⟨gb1, 0, none⟩ = some (.int .i64 a0_0) ∧ w27.cell? ⟨gb1, 1, none⟩ = some (.int .u32 a0_1) ∧ w27.cell? ⟨gb1, 2, none⟩ = some (.slice A0_2 l0_2.length c0_2) ∧ w27.cell? ⟨gb1, 3, none⟩ = some (.slice A0_3 l0_3.length c0_3) ∧ w27.cell? ⟨gb2, 0, none⟩ = some (.int .u32 a1_0) ∧ w27.cell? ⟨gb2, 1, none⟩ = some (.int .i64 a1_1) ∧ w27.cell? ⟨gb2, 2, none⟩ = some (.slice A1_2 l1_2.length c1_2) ∧ w27.cell? ⟨gb2, 3, none⟩ = some (.slice A1_3 l1_3.length c1_3) ∧ w27.cell? ⟨gb2, 4, none⟩ = some (.int .u32 a1_4) ∧ w27.cell? ⟨gb2, 5, none⟩ = some (.int .u32 a1_5) ∧ w27.cell? ⟨gb2, 6, none⟩ = some (.int .i64 a1_6) ∧ w27.cell? ⟨gb2, 7, none⟩ = some (.int .u32 a1_7) := hS_
               refine norm_ (a' := ?_) ?_ ?_
               rotate_left
               ·
                simp only [putAll, Act.put, List.setIfInBounds_toArray, List.set_cons_zero, List.set_cons_succ]
                rfl
               refine two_ (i := 1) (j := 5) (Ni := some 20) (Nj := some 6) #[true, true, true, false, true, false, false, false] #[true, false, true, false, true, true, false, false] rfl rfl rfl rfl (two_of HT_.out (by kernel_rfl)) (by decide) (by decide) (fun K hK => ?_) (fun K hK => ?_)
               ·
                skip
                refine goes_ Try.func11 (by kernel_rfl) rfl #[.agg #[.int .i64 a0_0, .int .u32 a0_1, .slice A0_2 l0_2.length c0_2, .slice A0_3 l0_3.length c0_3]] (by rfl) rfl rfl (by (try simp only [List.map_toArray, List.map_cons, List.map_nil]); first | done | rfl | (simp only [List.length_drop, List.length_take]; rfl)) ?_
                with_reducible refine (q3z.calls kj4 a0_0 a0_1 _ _ l0_2 _ _ l0_3 t6 t7 t8 t11 _ ?side1 ?side2 ?side3 ?side4 A21.out).mono ?_
                (case side1 => repeat (first | exact (Kd.C_below HR0_2.out HB.out) | (with_reducible refine Kd.C_alloc ?_ _) | (with_reducible refine Kd.C_drewN ?_ _) | (with_reducible refine Kd.C_drew ?_)))
                (case side2 => exact HC0_2.out)
                (case side3 => repeat (first | exact (Kd.C_below HR0_3.out HB.out) | (with_reducible refine Kd.C_alloc ?_ _) | (with_reducible refine Kd.C_drewN ?_ _) | (with_reducible refine Kd.C_drew ?_)))
                (case side4 => exact HC0_3.out)
                rintro e w28 ⟨v9, v12, rfl, ho0, ho1, hb⟩
                refine ⟨_, rfl, ?_⟩
                have HO10 := Aside0.mk (Kd.R_lower ho0 (below_size (hbW HB)))
                have HO13 := Aside0.mk (Kd.S_lower ho1 (below_size (hbW HB)))
                replace BK1 := bkB BK1 hb
                replace BK2 := bkB BK2 hb
                replace BK26 := bkB BK26 hb
                replace HB := hbS HB hb
                (try clear hb)
                (try clear ho0)
                (try clear ho1)
                refine hK.out _ _ (bk4 BK1 (bl8 BK2)) (fun hHeld => ?_)
                clear hK K
                refine norm_ (a' := ?_) ?_ ?_
                rotate_left
                ·
                 show Act.put _ (some 20) _ = _
                 simp only [Act.put, List.setIfInBounds_toArray, List.set_cons_zero, List.set_cons_succ, i64_w, i32_w, IntKind.wrap_u32]
                 rfl
                exact norm_ (by first | (simp only [putAll, Act.put, List.setIfInBounds_toArray, List.set_cons_zero, List.set_cons_succ]; done) | (simp only [putAll, Act.put, List.setIfInBounds_toArray, List.set_cons_zero, List.set_cons_succ]; rfl)) (hJ1_4 (v9, v12, gb26) _ ⟨hHeld, (rW HO10), (by (with_reducible repeat (first | apply Kd.S_alloc | apply Kd.S_drewN | apply Kd.S_drew)); exact HO13.out), (bkW BK1), (bkW BK2), (bkW BK26), GW26.out, GE26.out, NB1_26.out, NB26_1.out, NB2_26.out, NB26_2.out, (hbW HB)⟩)
               ·
                skip
                refine box_step ?hg (N := 6) ?hd (cs := #[.int .u32 0, .int .i64 0, .slice none 0 0, .slice none 0 0, .int .u32 0, .int .u32 0, .int .i64 0, .int .u32 0]) (t := 30) ?hr ?_; (case hd => rfl); (case hg => rfl); (case hr => first | (go_simp; done) | (go_simp; rfl))
                intro gb27 hg w28 hbox hb
                have BK27 := Aside0.mk (hbox)
                have GW27 := gwS hg HB
                have GE27 := gwS hg HB
                have NB1_27 := nbL hg BK1
                have NB27_1 := nbG hg BK1
                have NB2_27 := nbL hg BK2
                have NB27_2 := nbG hg BK2
                have NB26_27 := nbL hg BK26
                have NB27_26 := nbG hg BK26
                replace BK1 := bkB BK1 hb
                replace BK2 := bkB BK2 hb
                replace BK26 := bkB BK26 hb
                replace HB := hbS HB hb
                clear hb hbox hg
                refine hK.out _ _ (bk4 BK1 (bl8 BK2)) (fun hHeld => ?_)
                clear hK K
                refine norm_ (a' := ?_) ?_ ?_
                rotate_left
                ·
                 show Act.put _ (some 6) _ = _
                 simp only [Act.put, List.setIfInBounds_toArray, List.set_cons_zero, List.set_cons_succ, i64_w, i32_w, IntKind.wrap_u32]
                 rfl
                exact norm_ (by first | (simp only [putAll, Act.put, List.setIfInBounds_toArray, List.set_cons_zero, List.set_cons_succ]; done) | (simp only [putAll, Act.put, List.setIfInBounds_toArray, List.set_cons_zero, List.set_cons_succ]; rfl)) (hJ4_5 (gb26, gb27) _ ⟨hHeld, (bkW BK1), (bkW BK2), (bkW BK26), (bkW BK27), GW26.out, GE26.out, NB1_26.out, NB26_1.out, NB2_26.out, NB26_2.out, NB27_26.out, NB26_27.out, GW27.out, GE27.out, NB1_27.out, NB27_1.out, NB2_27.out, NB27_2.out, (hbW HB)⟩)
             ·
              skip
              rintro ⟨v9, v12⟩ w27 ⟨hS_, h0_, h1_, h2_, h3_, h4_⟩
              have n0_ : Aside0 (Kd.R (Kd.int .u32) 22 w27 w.heap.size (fun _ => True) v9 t8) := ⟨h0_⟩
              have n1_ : Aside0 (Kd.S k53 53 w27 w.heap.size (fun _ => True) v12 t11) := ⟨h1_⟩
              have n2_ : Aside0 (w27.heap[gb1]? = some (.cells #[.int .i64 a0_0, .int .u32 a0_1, .slice A0_2 l0_2.length c0_2, .slice A0_3 l0_3.length c0_3] 26 (0, 0))) := ⟨h2_⟩
              have n3_ : Aside0 (w27.heap[gb2]? = some (.cells #[.int .u32 a1_0, .int .i64 a1_1, .slice A1_2 l1_2.length c1_2, .slice A1_3 l1_3.length c1_3, .int .u32 a1_4, .int .u32 a1_5, .int .i64 a1_6, .int .u32 a1_7] 30 (0, 0))) := ⟨h3_⟩
              have n4_ : Aside0 (Below w.heap.size w w27) := ⟨h4_⟩
              clear BK1 BK2 HB h0_ h1_ h2_ h3_ h4_
              have HO10 := n0_
              have HO13 := n1_
              have BK1 := n2_
              have BK2 := n3_
              have HB := n4_
              clear n0_ n1_ n2_ n3_ n4_
              have hHeld : w27.cell? ⟨gb1, 0, none⟩ = some (.int .i64 a0_0) ∧ w27.cell? ⟨gb1, 1, none⟩ = some (.int .u32 a0_1) ∧ w27.cell? ⟨gb1, 2, none⟩ = some (.slice A0_2 l0_2.length c0_2) ∧ w27.cell? ⟨gb1, 3, none⟩ = some (.slice A0_3 l0_3.length c0_3) ∧ w27.cell? ⟨gb2, 0, none⟩ = some (.int .u32 a1_0) ∧ w27.cell? ⟨gb2, 1, none⟩ = some (.int .i64 a1_1) ∧ w27.cell? ⟨gb2, 2, none⟩ = some (.slice A1_2 l1_2.length c1_2) ∧ w27.cell? ⟨gb2, 3, none⟩ = some (.slice A1_3 l1_3.length c1_3) ∧ w27.cell? ⟨gb2, 4, none⟩ = some (.int .u32 a1_4) ∧ w27.cell? ⟨gb2, 5, none⟩ = some (.int .u32 a1_5) ∧ w27.cell? ⟨gb2, 6, none⟩ = some (.int .i64 a1_6) ∧ w27.cell? ⟨gb2, 7, none⟩ = some (.int .u32 a1_7) := hS_
              refine norm_ (a' := ?_) ?_ ?_
              rotate_left
              ·
               simp only [putAll, Act.put, List.setIfInBounds_toArray, List.set_cons_zero, List.set_cons_succ]
               rfl
              refine three_ (i := 3) (j := 4) (k := 5) (Ni := some 22) (Nj := some 5) (Nk := some 6) #[true, true, true, true, false, false, false, false] #[true, true, true, false, true, false, false, false] #[true, true, true, false, false, true, false, false] rfl rfl rfl rfl rfl rfl (three_of HT_.out (by kernel_rfl)) (by decide) (by decide) (by decide) (fun K hK => ?_) (fun K hK => ?_) (fun K hK => ?_)
              ·
               skip
               refine goes_ Try.func12 (by kernel_rfl) rfl #[.agg #[.int .u32 a1_0, .int .i64 a1_1, .slice A1_2 l1_2.length c1_2, .slice A1_3 l1_3.length c1_3, .int .u32 a1_4, .int .u32 a1_5, .int .i64 a1_6, .int .u32 a1_7]] (by rfl) rfl rfl (by (try simp only [List.map_toArray, List.map_cons, List.map_nil]); first | done | rfl | (simp only [List.length_drop, List.length_take]; rfl)) ?_
               with_reducible refine (q4z.calls a1_0 a1_1 _ _ l1_2 _ _ l1_3 a1_4 a1_5 a1_6 a1_7 t14 t15 t16 t19 t22 t23 t24 t25 _ ?side1 ?side2 ?side3 ?side4 A22.out).mono ?_
               (case side1 => repeat (first | exact (Kd.C_below HR1_2.out HB.out) | (with_reducible refine Kd.C_alloc ?_ _) | (with_reducible refine Kd.C_drewN ?_ _) | (with_reducible refine Kd.C_drew ?_)))
               (case side2 => exact HC1_2.out)
               (case side3 => repeat (first | exact (Kd.C_below HR1_3.out HB.out) | (with_reducible refine Kd.C_alloc ?_ _) | (with_reducible refine Kd.C_drewN ?_ _) | (with_reducible refine Kd.C_drew ?_)))
               (case side4 => exact HC1_3.out)
               rintro e w28 ⟨v17, v20, rfl, ho0, ho1, hb⟩
               refine ⟨_, rfl, ?_⟩
               have HO18 := Aside0.mk (Kd.R_lower (Kd.R_new' ho0 (Kd.R_lt (rW HO10))) (below_size (hbW HB)))
               have HO21 := Aside0.mk (Kd.R_lower (Kd.R_new' ho1 (Kd.R_lt (rW HO10))) (below_size (hbW HB)))
               replace HO10 := Aside0.mk (Kd.R_mono (Kd.R_told (Kd.R_told (Kd.R_old (rW HO10) hb) (Kd.R_base ho0)) (Kd.R_base ho1)) (fun _ h_ => h_.1))
               replace HO13 := Aside0.mk (Kd.S_below (by (with_reducible repeat (first | apply Kd.S_alloc | apply Kd.S_drewN | apply Kd.S_drew)); exact HO13.out) hb)
               replace BK1 := bkB BK1 hb
               replace BK2 := bkB BK2 hb
               replace HB := hbS HB hb
               (try clear hb)
               (try clear ho0)
               (try clear ho1)
               refine hK.out _ _ (bk4 BK1 (bl8 BK2)) (fun hHeld => ?_)
               clear hK K
               refine norm_ (a' := ?_) ?_ ?_
               rotate_left
               ·
                show Act.put _ (some 22) _ = _
                simp only [Act.put, List.setIfInBounds_toArray, List.set_cons_zero, List.set_cons_succ, i64_w, i32_w, IntKind.wrap_u32]
                rfl
               exact norm_ (by first | (simp only [putAll, Act.put, List.setIfInBounds_toArray, List.set_cons_zero, List.set_cons_succ]; done) | (simp only [putAll, Act.put, List.setIfInBounds_toArray, List.set_cons_zero, List.set_cons_succ]; rfl)) (hJ1_3 (v9, v12, v17, v20) _ ⟨hHeld, (by (with_reducible repeat (first | apply Kd.R_alloc | apply Kd.R_drewN | apply Kd.R_drew)); exact Kd.R_mono HO10.out (fun _ hk => ⟨hk.1.2, hk.2⟩)), (by (with_reducible repeat (first | apply Kd.S_alloc | apply Kd.S_drewN | apply Kd.S_drew)); exact HO13.out), (by (with_reducible repeat (first | apply Kd.R_alloc | apply Kd.R_drewN | apply Kd.R_drew)); exact Kd.R_mono HO18.out (fun _ hk => ⟨hk.2, hk.1⟩)), (by (with_reducible repeat (first | apply Kd.R_alloc | apply Kd.R_drewN | apply Kd.R_drew)); exact Kd.R_mono HO21.out (fun _ hk => ⟨hk.2, hk.1⟩)), (bkW BK1), (bkW BK2), (hbW HB)⟩)
              ·
               skip
               refine box_step ?hg (N := 5) ?hd (cs := #[.int .i64 0, .int .u32 0, .slice none 0 0, .slice none 0 0]) (t := 26) ?hr ?_; (case hd => rfl); (case hg => rfl); (case hr => first | (go_simp; done) | (go_simp; rfl))
               intro gb26 hg w28 hbox hb
               have BK26 := Aside0.mk (hbox)
               have GW26 := gwS hg HB
               have GE26 := gwS hg HB
               have NB1_26 := nbL hg BK1
               have NB26_1 := nbG hg BK1
               have NB2_26 := nbL hg BK2
               have NB26_2 := nbG hg BK2
               replace HO10 := Aside0.mk (Kd.R_below (rW HO10) hb)
               replace HO13 := Aside0.mk (Kd.S_below (by (with_reducible repeat (first | apply Kd.S_alloc | apply Kd.S_drewN | apply Kd.S_drew)); exact HO13.out) hb)
               replace BK1 := bkB BK1 hb
               replace BK2 := bkB BK2 hb
               replace HB := hbS HB hb
               clear hb hbox hg
               refine hK.out _ _ (bk4 BK1 (bl8 BK2)) (fun hHeld => ?_)
               clear hK K
               refine norm_ (a' := ?_) ?_ ?_
               rotate_left
               ·
                show Act.put _ (some 5) _ = _
                simp only [Act.put, List.setIfInBounds_toArray, List.set_cons_zero, List.set_cons_succ, i64_w, i32_w, IntKind.wrap_u32]
                rfl
               exact norm_ (by first | (simp only [putAll, Act.put, List.setIfInBounds_toArray, List.set_cons_zero, List.set_cons_succ]; done) | (simp only [putAll, Act.put, List.setIfInBounds_toArray, List.set_cons_zero, List.set_cons_succ]; rfl)) (hJ1_4 (v9, v12, gb26) _ ⟨hHeld, (rW HO10), (by (with_reducible repeat (first | apply Kd.S_alloc | apply Kd.S_drewN | apply Kd.S_drew)); exact HO13.out), (bkW BK1), (bkW BK2), (bkW BK26), GW26.out, GE26.out, NB1_26.out, NB26_1.out, NB2_26.out, NB26_2.out, (hbW HB)⟩)
              ·
               skip
               refine box_step ?hg (N := 6) ?hd (cs := #[.int .u32 0, .int .i64 0, .slice none 0 0, .slice none 0 0, .int .u32 0, .int .u32 0, .int .i64 0, .int .u32 0]) (t := 30) ?hr ?_; (case hd => rfl); (case hg => rfl); (case hr => first | (go_simp; done) | (go_simp; rfl))
               intro gb27 hg w28 hbox hb
               have BK27 := Aside0.mk (hbox)
               have GW27 := gwS hg HB
               have GE27 := gwS hg HB
               have NB1_27 := nbL hg BK1
               have NB27_1 := nbG hg BK1
               have NB2_27 := nbL hg BK2
               have NB27_2 := nbG hg BK2
               replace HO10 := Aside0.mk (Kd.R_below (rW HO10) hb)
               replace HO13 := Aside0.mk (Kd.S_below (by (with_reducible repeat (first | apply Kd.S_alloc | apply Kd.S_drewN | apply Kd.S_drew)); exact HO13.out) hb)
               replace BK1 := bkB BK1 hb
               replace BK2 := bkB BK2 hb
               replace HB := hbS HB hb
               clear hb hbox hg
               refine hK.out _ _ (bk4 BK1 (bl8 BK2)) (fun hHeld => ?_)
               clear hK K
               refine norm_ (a' := ?_) ?_ ?_
               rotate_left
               ·
                show Act.put _ (some 6) _ = _
                simp only [Act.put, List.setIfInBounds_toArray, List.set_cons_zero, List.set_cons_succ, i64_w, i32_w, IntKind.wrap_u32]
                rfl
               exact norm_ (by first | (simp only [putAll, Act.put, List.setIfInBounds_toArray, List.set_cons_zero, List.set_cons_succ]; done) | (simp only [putAll, Act.put, List.setIfInBounds_toArray, List.set_cons_zero, List.set_cons_succ]; rfl)) (hJ1_5 (v9, v12, gb27) _ ⟨hHeld, (rW HO10), (by (with_reducible repeat (first | apply Kd.S_alloc | apply Kd.S_drewN | apply Kd.S_drew)); exact HO13.out), (bkW BK1), (bkW BK2), (bkW BK27), GW27.out, GE27.out, NB1_27.out, NB27_1.out, NB2_27.out, NB27_2.out, (hbW HB)⟩)
            ·
             skip
             rintro ⟨gb26, gb27⟩ w28 ⟨hS_, h0_, h1_, h2_, h3_, h4_, h5_, h6_, h7_, h8_, h9_, h10_, h11_, h12_, h13_, h14_, h15_, h16_, h17_, h18_⟩
             have n0_ : Aside0 (w28.heap[gb1]? = some (.cells #[.int .i64 a0_0, .int .u32 a0_1, .slice A0_2 l0_2.length c0_2, .slice A0_3 l0_3.length c0_3] 26 (0, 0))) := ⟨h0_⟩
             have n1_ : Aside0 (w28.heap[gb2]? = some (.cells #[.int .u32 a1_0, .int .i64 a1_1, .slice A1_2 l1_2.length c1_2, .slice A1_3 l1_3.length c1_3, .int .u32 a1_4, .int .u32 a1_5, .int .i64 a1_6, .int .u32 a1_7] 30 (0, 0))) := ⟨h1_⟩
             have n2_ : Aside0 (w28.heap[gb26]? = some (.cells #[.int .i64 0, .int .u32 0, .slice none 0 0, .slice none 0 0] 26 (0, 0))) := ⟨h2_⟩
             have n3_ : Aside0 (w28.heap[gb27]? = some (.cells #[.int .u32 0, .int .i64 0, .slice none 0 0, .slice none 0 0, .int .u32 0, .int .u32 0, .int .i64 0, .int .u32 0] 30 (0, 0))) := ⟨h3_⟩
             have n4_ : Aside0 (w.heap.size ≤ gb26) := ⟨h4_⟩
             have n5_ : Aside0 (w.heap.size ≤ gb26) := ⟨h5_⟩
             have n6_ : Aside0 (gb1 ≠ gb26) := ⟨h6_⟩
             have n7_ : Aside0 (gb26 ≠ gb1) := ⟨h7_⟩
             have n8_ : Aside0 (gb2 ≠ gb26) := ⟨h8_⟩
             have n9_ : Aside0 (gb26 ≠ gb2) := ⟨h9_⟩
             have n10_ : Aside0 (gb27 ≠ gb26) := ⟨h10_⟩
             have n11_ : Aside0 (gb26 ≠ gb27) := ⟨h11_⟩
             have n12_ : Aside0 (w.heap.size ≤ gb27) := ⟨h12_⟩
             have n13_ : Aside0 (w.heap.size ≤ gb27) := ⟨h13_⟩
             have n14_ : Aside0 (gb1 ≠ gb27) := ⟨h14_⟩
             have n15_ : Aside0 (gb27 ≠ gb1) := ⟨h15_⟩
             have n16_ : Aside0 (gb2 ≠ gb27) := ⟨h16_⟩
             have n17_ : Aside0 (gb27 ≠ gb2) := ⟨h17_⟩
             have n18_ : Aside0 (Below w.heap.size w w28) := ⟨h18_⟩
             clear BK1 BK2 HB h0_ h1_ h2_ h3_ h4_ h5_ h6_ h7_ h8_ h9_ h10_ h11_ h12_ h13_ h14_ h15_ h16_ h17_ h18_
             have BK1 := n0_
             have BK2 := n1_
             have BK26 := n2_
             have BK27 := n3_
             have GW26 := n4_
             have GE26 := n5_
             have NB1_26 := n6_
             have NB26_1 := n7_
             have NB2_26 := n8_
             have NB26_2 := n9_
             have NB27_26 := n10_
             have NB26_27 := n11_
             have GW27 := n12_
             have GE27 := n13_
             have NB1_27 := n14_
             have NB27_1 := n15_
             have NB2_27 := n16_
             have NB27_2 := n17_
             have HB := n18_
             clear n0_ n1_ n2_ n3_ n4_ n5_ n6_ n7_ n8_ n9_ n10_ n11_ n12_ n13_ n14_ n15_ n16_ n17_ n18_
             have hHeld : w28.cell? ⟨gb1, 0, none⟩ = some (.int .i64 a0_0) ∧ w28.cell? ⟨gb1, 1, none⟩ = some (.int .u32 a0_1) ∧ w28.cell? ⟨gb1, 2, none⟩ = some (.slice A0_2 l0_2.length c0_2) ∧ w28.cell? ⟨gb1, 3, none⟩ = some (.slice A0_3 l0_3.length c0_3) ∧ w28.cell? ⟨gb2, 0, none⟩ = some (.int .u32 a1_0) ∧ w28.cell? ⟨gb2, 1, none⟩ = some (.int .i64 a1_1) ∧ w28.cell? ⟨gb2, 2, none⟩ = some (.slice A1_2 l1_2.length c1_2) ∧ w28.cell? ⟨gb2, 3, none⟩ = some (.slice A1_3 l1_3.length c1_3) ∧ w28.cell? ⟨gb2, 4, none⟩ = some (.int .u32 a1_4) ∧ w28.cell? ⟨gb2, 5, none⟩ = some (.int .u32 a1_5) ∧ w28.cell? ⟨gb2, 6, none⟩ = some (.int .i64 a1_6) ∧ w28.cell? ⟨gb2, 7, none⟩ = some (.int .u32 a1_7) := hS_
             refine norm_ (a' := ?_) ?_ ?_
             rotate_left
             ·
              simp only [putAll, Act.put, List.setIfInBounds_toArray, List.set_cons_zero, List.set_cons_succ]
              rfl
             refine one_ (i := 1) (N := some 20) #[true, true, true, false, true, true, false, false] rfl rfl (one_of HT_.out (by kernel_rfl)) (by decide) (fun K hK => ?_)
             refine goes_ Try.func11 (by kernel_rfl) rfl #[.agg #[.int .i64 a0_0, .int .u32 a0_1, .slice A0_2 l0_2.length c0_2, .slice A0_3 l0_3.length c0_3]] (by rfl) rfl rfl (by (try simp only [List.map_toArray, List.map_cons, List.map_nil]); first | done | rfl | (simp only [List.length_drop, List.length_take]; rfl)) ?_
             with_reducible refine (q3z.calls kj4 a0_0 a0_1 _ _ l0_2 _ _ l0_3 t6 t7 t8 t11 _ ?side1 ?side2 ?side3 ?side4 A21.out).mono ?_
             (case side1 => repeat (first | exact (Kd.C_below HR0_2.out HB.out) | (with_reducible refine Kd.C_alloc ?_ _) | (with_reducible refine Kd.C_drewN ?_ _) | (with_reducible refine Kd.C_drew ?_)))
             (case side2 => exact HC0_2.out)
             (case side3 => repeat (first | exact (Kd.C_below HR0_3.out HB.out) | (with_reducible refine Kd.C_alloc ?_ _) | (with_reducible refine Kd.C_drewN ?_ _) | (with_reducible refine Kd.C_drew ?_)))
             (case side4 => exact HC0_3.out)
             rintro e w29 ⟨v9, v12, rfl, ho0, ho1, hb⟩
             refine ⟨_, rfl, ?_⟩
             have HO10 := Aside0.mk (Kd.R_lower ho0 (below_size (hbW HB)))
             have HO13 := Aside0.mk (Kd.S_lower ho1 (below_size (hbW HB)))
             replace BK1 := bkB BK1 hb
             replace BK2 := bkB BK2 hb
             replace BK26 := bkB BK26 hb
             replace BK27 := bkB BK27 hb
             replace HB := hbS HB hb
             (try clear hb)
             (try clear ho0)
             (try clear ho1)
             refine hK.out _ _ (bk4 BK1 (bl8 BK2)) (fun hHeld => ?_)
             clear hK K
             refine norm_ (a' := ?_) ?_ ?_
             rotate_left
             ·
              show Act.put _ (some 20) _ = _
              simp only [Act.put, List.setIfInBounds_toArray, List.set_cons_zero, List.set_cons_succ, i64_w, i32_w, IntKind.wrap_u32]
              rfl
             exact norm_ (by first | (simp only [putAll, Act.put, List.setIfInBounds_toArray, List.set_cons_zero, List.set_cons_succ]; done) | (simp only [putAll, Act.put, List.setIfInBounds_toArray, List.set_cons_zero, List.set_cons_succ]; rfl)) (hJ1_4_5 (v9, v12, gb26, gb27) _ ⟨hHeld, (rW HO10), (by (with_reducible repeat (first | apply Kd.S_alloc | apply Kd.S_drewN | apply Kd.S_drew)); exact HO13.out), (bkW BK1), (bkW BK2), (bkW BK26), (bkW BK27), GW26.out, GE26.out, NB1_26.out, NB26_1.out, NB2_26.out, NB26_2.out, NB27_26.out, NB26_27.out, GW27.out, GE27.out, NB1_27.out, NB27_1.out, NB2_27.out, NB27_2.out, (hbW HB)⟩)
           ·
            skip
            rintro ⟨v9, v12, gb27⟩ w28 ⟨hS_, h0_, h1_, h2_, h3_, h4_, h5_, h6_, h7_, h8_, h9_, h10_, h11_⟩
            have n0_ : Aside0 (Kd.R (Kd.int .u32) 22 w28 w.heap.size (fun _ => True) v9 t8) := ⟨h0_⟩
            have n1_ : Aside0 (Kd.S k53 53 w28 w.heap.size (fun _ => True) v12 t11) := ⟨h1_⟩
            have n2_ : Aside0 (w28.heap[gb1]? = some (.cells #[.int .i64 a0_0, .int .u32 a0_1, .slice A0_2 l0_2.length c0_2, .slice A0_3 l0_3.length c0_3] 26 (0, 0))) := ⟨h2_⟩
            have n3_ : Aside0 (w28.heap[gb2]? = some (.cells #[.int .u32 a1_0, .int .i64 a1_1, .slice A1_2 l1_2.length c1_2, .slice A1_3 l1_3.length c1_3, .int .u32 a1_4, .int .u32 a1_5, .int .i64 a1_6, .int .u32 a1_7] 30 (0, 0))) := ⟨h3_⟩
            have n4_ : Aside0 (w28.heap[gb27]? = some (.cells #[.int .u32 0, .int .i64 0, .slice none 0 0, .slice none 0 0, .int .u32 0, .int .u32 0, .int .i64 0, .int .u32 0] 30 (0, 0))) := ⟨h4_⟩
            have n5_ : Aside0 (w.heap.size ≤ gb27) := ⟨h5_⟩
            have n6_ : Aside0 (w.heap.size ≤ gb27) := ⟨h6_⟩
            have n7_ : Aside0 (gb1 ≠ gb27) := ⟨h7_⟩
            have n8_ : Aside0 (gb27 ≠ gb1) := ⟨h8_⟩
            have n9_ : Aside0 (gb2 ≠ gb27) := ⟨h9_⟩
            have n10_ : Aside0 (gb27 ≠ gb2) := ⟨h10_⟩
            have n11_ : Aside0 (Below w.heap.size w w28) := ⟨h11_⟩
            clear BK1 BK2 HB h0_ h1_ h2_ h3_ h4_ h5_ h6_ h7_ h8_ h9_ h10_ h11_
            have HO10 := n0_
            have HO13 := n1_
            have BK1 := n2_
            have BK2 := n3_
            have BK27 := n4_
            have GW27 := n5_
            have GE27 := n6_
            have NB1_27 := n7_
            have NB27_1 := n8_
            have NB2_27 := n9_
            have NB27_2 := n10_
            have HB := n11_
            clear n0_ n1_ n2_ n3_ n4_ n5_ n6_ n7_ n8_ n9_ n10_ n11_
            have hHeld : w28.cell? ⟨gb1, 0, none⟩ = some (.int .i64 a0_0) ∧ w28.cell? ⟨gb1, 1, none⟩ = some (.int .u32 a0_1) ∧ w28.cell? ⟨gb1, 2, none⟩ = some (.slice A0_2 l0_2.length c0_2) ∧ w28.cell? ⟨gb1, 3, none⟩ = some (.slice A0_3 l0_3.length c0_3) ∧ w28.cell? ⟨gb2, 0, none⟩ = some (.int .u32 a1_0) ∧ w28.cell? ⟨gb2, 1, none⟩ = some (.int .i64 a1_1) ∧ w28.cell? ⟨gb2, 2, none⟩ = some (.slice A1_2 l1_2.length c1_2) ∧ w28.cell? ⟨gb2, 3, none⟩ = some (.slice A1_3 l1_3.length c1_3) ∧ w28.cell? ⟨gb2, 4, none⟩ = some (.int .u32 a1_4) ∧ w28.cell? ⟨gb2, 5, none⟩ = some (.int .u32 a1_5) ∧ w28.cell? ⟨gb2, 6, none⟩ = some (.int .i64 a1_6) ∧ w28.cell? ⟨gb2, 7, none⟩ = some (.int .u32 a1_7) := hS_
            refine norm_ (a' := ?_) ?_ ?_
            rotate_left
            ·
             simp only [putAll, Act.put, List.setIfInBounds_toArray, List.set_cons_zero, List.set_cons_succ]
             rfl
            refine two_ (i := 3) (j := 4) (Ni := some 22) (Nj := some 5) #[true, true, true, true, false, true, false, false] #[true, true, true, false, true, true, false, false] rfl rfl rfl rfl (two_of HT_.out (by kernel_rfl)) (by decide) (by decide) (fun K hK => ?_) (fun K hK => ?_)
            ·
             skip
             refine goes_ Try.func12 (by kernel_rfl) rfl #[.agg #[.int .u32 a1_0, .int .i64 a1_1, .slice A1_2 l1_2.length c1_2, .slice A1_3 l1_3.length c1_3, .int .u32 a1_4, .int .u32 a1_5, .int .i64 a1_6, .int .u32 a1_7]] (by rfl) rfl rfl (by (try simp only [List.map_toArray, List.map_cons, List.map_nil]); first | done | rfl | (simp only [List.length_drop, List.length_take]; rfl)) ?_
             with_reducible refine (q4z.calls a1_0 a1_1 _ _ l1_2 _ _ l1_3 a1_4 a1_5 a1_6 a1_7 t14 t15 t16 t19 t22 t23 t24 t25 _ ?side1 ?side2 ?side3 ?side4 A22.out).mono ?_
             (case side1 => repeat (first | exact (Kd.C_below HR1_2.out HB.out) | (with_reducible refine Kd.C_alloc ?_ _) | (with_reducible refine Kd.C_drewN ?_ _) | (with_reducible refine Kd.C_drew ?_)))
             (case side2 => exact HC1_2.out)
             (case side3 => repeat (first | exact (Kd.C_below HR1_3.out HB.out) | (with_reducible refine Kd.C_alloc ?_ _) | (with_reducible refine Kd.C_drewN ?_ _) | (with_reducible refine Kd.C_drew ?_)))
             (case side4 => exact HC1_3.out)
             rintro e w29 ⟨v17, v20, rfl, ho0, ho1, hb⟩
             refine ⟨_, rfl, ?_⟩
             have HO18 := Aside0.mk (Kd.R_lower (Kd.R_new' ho0 (Kd.R_lt (rW HO10))) (below_size (hbW HB)))
             have HO21 := Aside0.mk (Kd.R_lower (Kd.R_new' ho1 (Kd.R_lt (rW HO10))) (below_size (hbW HB)))
             replace HO10 := Aside0.mk (Kd.R_mono (Kd.R_told (Kd.R_told (Kd.R_old (rW HO10) hb) (Kd.R_base ho0)) (Kd.R_base ho1)) (fun _ h_ => h_.1))
             replace HO13 := Aside0.mk (Kd.S_below (by (with_reducible repeat (first | apply Kd.S_alloc | apply Kd.S_drewN | apply Kd.S_drew)); exact HO13.out) hb)
             replace BK1 := bkB BK1 hb
             replace BK2 := bkB BK2 hb
             replace BK27 := bkB BK27 hb
             replace HB := hbS HB hb
             (try clear hb)
             (try clear ho0)
             (try clear ho1)
             refine hK.out _ _ (bk4 BK1 (bl8 BK2)) (fun hHeld => ?_)
             clear hK K
             refine norm_ (a' := ?_) ?_ ?_
             rotate_left
             ·
              show Act.put _ (some 22) _ = _
              simp only [Act.put, List.setIfInBounds_toArray, List.set_cons_zero, List.set_cons_succ, i64_w, i32_w, IntKind.wrap_u32]
              rfl
             exact norm_ (by first | (simp only [putAll, Act.put, List.setIfInBounds_toArray, List.set_cons_zero, List.set_cons_succ]; done) | (simp only [putAll, Act.put, List.setIfInBounds_toArray, List.set_cons_zero, List.set_cons_succ]; rfl)) (hJ1_3_5 (v9, v12, v17, v20, gb27) _ ⟨hHeld, (by (with_reducible repeat (first | apply Kd.R_alloc | apply Kd.R_drewN | apply Kd.R_drew)); exact Kd.R_mono HO10.out (fun _ hk => ⟨hk.1.2, hk.2⟩)), (by (with_reducible repeat (first | apply Kd.S_alloc | apply Kd.S_drewN | apply Kd.S_drew)); exact HO13.out), (by (with_reducible repeat (first | apply Kd.R_alloc | apply Kd.R_drewN | apply Kd.R_drew)); exact Kd.R_mono HO18.out (fun _ hk => ⟨hk.2, hk.1⟩)), (by (with_reducible repeat (first | apply Kd.R_alloc | apply Kd.R_drewN | apply Kd.R_drew)); exact Kd.R_mono HO21.out (fun _ hk => ⟨hk.2, hk.1⟩)), (bkW BK1), (bkW BK2), (bkW BK27), GW27.out, GE27.out, NB1_27.out, NB27_1.out, NB2_27.out, NB27_2.out, (hbW HB)⟩)
            ·
             skip
             refine box_step ?hg (N := 5) ?hd (cs := #[.int .i64 0, .int .u32 0, .slice none 0 0, .slice none 0 0]) (t := 26) ?hr ?_; (case hd => rfl); (case hg => rfl); (case hr => first | (go_simp; done) | (go_simp; rfl))
             intro gb26 hg w29 hbox hb
             have BK26 := Aside0.mk (hbox)
             have GW26 := gwS hg HB
             have GE26 := gwS hg HB
             have NB1_26 := nbL hg BK1
             have NB26_1 := nbG hg BK1
             have NB2_26 := nbL hg BK2
             have NB26_2 := nbG hg BK2
             have NB27_26 := nbL hg BK27
             have NB26_27 := nbG hg BK27
             replace HO10 := Aside0.mk (Kd.R_below (rW HO10) hb)
             replace HO13 := Aside0.mk (Kd.S_below (by (with_reducible repeat (first | apply Kd.S_alloc | apply Kd.S_drewN | apply Kd.S_drew)); exact HO13.out) hb)
             replace BK1 := bkB BK1 hb
             replace BK2 := bkB BK2 hb
             replace BK27 := bkB BK27 hb
             replace HB := hbS HB hb
             clear hb hbox hg
             refine hK.out _ _ (bk4 BK1 (bl8 BK2)) (fun hHeld => ?_)
             clear hK K
             refine norm_ (a' := ?_) ?_ ?_
             rotate_left
             ·
              show Act.put _ (some 5) _ = _
              simp only [Act.put, List.setIfInBounds_toArray, List.set_cons_zero, List.set_cons_succ, i64_w, i32_w, IntKind.wrap_u32]
              rfl
             exact norm_ (by first | (simp only [putAll, Act.put, List.setIfInBounds_toArray, List.set_cons_zero, List.set_cons_succ]; done) | (simp only [putAll, Act.put, List.setIfInBounds_toArray, List.set_cons_zero, List.set_cons_succ]; rfl)) (hJ1_4_5 (v9, v12, gb26, gb27) _ ⟨hHeld, (rW HO10), (by (with_reducible repeat (first | apply Kd.S_alloc | apply Kd.S_drewN | apply Kd.S_drew)); exact HO13.out), (bkW BK1), (bkW BK2), (bkW BK26), (bkW BK27), GW26.out, GE26.out, NB1_26.out, NB26_1.out, NB2_26.out, NB26_2.out, NB27_26.out, NB26_27.out, GW27.out, GE27.out, NB1_27.out, NB27_1.out, NB2_27.out, NB27_2.out, (hbW HB)⟩)
          ·
           skip
           rintro ⟨v9, v12, gb26⟩ w28 ⟨hS_, h0_, h1_, h2_, h3_, h4_, h5_, h6_, h7_, h8_, h9_, h10_, h11_⟩
           have n0_ : Aside0 (Kd.R (Kd.int .u32) 22 w28 w.heap.size (fun _ => True) v9 t8) := ⟨h0_⟩
           have n1_ : Aside0 (Kd.S k53 53 w28 w.heap.size (fun _ => True) v12 t11) := ⟨h1_⟩
           have n2_ : Aside0 (w28.heap[gb1]? = some (.cells #[.int .i64 a0_0, .int .u32 a0_1, .slice A0_2 l0_2.length c0_2, .slice A0_3 l0_3.length c0_3] 26 (0, 0))) := ⟨h2_⟩
           have n3_ : Aside0 (w28.heap[gb2]? = some (.cells #[.int .u32 a1_0, .int .i64 a1_1, .slice A1_2 l1_2.length c1_2, .slice A1_3 l1_3.length c1_3, .int .u32 a1_4, .int .u32 a1_5, .int .i64 a1_6, .int .u32 a1_7] 30 (0, 0))) := ⟨h3_⟩
           have n4_ : Aside0 (w28.heap[gb26]? = some (.cells #[.int .i64 0, .int .u32 0, .slice none 0 0, .slice none 0 0] 26 (0, 0))) := ⟨h4_⟩
           have n5_ : Aside0 (w.heap.size ≤ gb26) := ⟨h5_⟩
           have n6_ : Aside0 (w.heap.size ≤ gb26) := ⟨h6_⟩
           have n7_ : Aside0 (gb1 ≠ gb26) := ⟨h7_⟩
           have n8_ : Aside0 (gb26 ≠ gb1) := ⟨h8_⟩
           have n9_ : Aside0 (gb2 ≠ gb26) := ⟨h9_⟩
           have n10_ : Aside0 (gb26 ≠ gb2) := ⟨h10_⟩
           have n11_ : Aside0 (Below w.heap.size w w28) := ⟨h11_⟩
           clear BK1 BK2 HB h0_ h1_ h2_ h3_ h4_ h5_ h6_ h7_ h8_ h9_ h10_ h11_
           have HO10 := n0_
           have HO13 := n1_
           have BK1 := n2_
           have BK2 := n3_
           have BK26 := n4_
           have GW26 := n5_
           have GE26 := n6_
           have NB1_26 := n7_
           have NB26_1 := n8_
           have NB2_26 := n9_
           have NB26_2 := n10_
           have HB := n11_
           clear n0_ n1_ n2_ n3_ n4_ n5_ n6_ n7_ n8_ n9_ n10_ n11_
           have hHeld : w28.cell? ⟨gb1, 0, none⟩ = some (.int .i64 a0_0) ∧ w28.cell? ⟨gb1, 1, none⟩ = some (.int .u32 a0_1) ∧ w28.cell? ⟨gb1, 2, none⟩ = some (.slice A0_2 l0_2.length c0_2) ∧ w28.cell? ⟨gb1, 3, none⟩ = some (.slice A0_3 l0_3.length c0_3) ∧ w28.cell? ⟨gb2, 0, none⟩ = some (.int .u32 a1_0) ∧ w28.cell? ⟨gb2, 1, none⟩ = some (.int .i64 a1_1) ∧ w28.cell? ⟨gb2, 2, none⟩ = some (.slice A1_2 l1_2.length c1_2) ∧ w28.cell? ⟨gb2, 3, none⟩ = some (.slice A1_3 l1_3.length c1_3) ∧ w28.cell? ⟨gb2, 4, none⟩ = some (.int .u32 a1_4) ∧ w28.cell? ⟨gb2, 5, none⟩ = some (.int .u32 a1_5) ∧ w28.cell? ⟨gb2, 6, none⟩ = some (.int .i64 a1_6) ∧ w28.cell? ⟨gb2, 7, none⟩ = some (.int .u32 a1_7) := hS_
           refine norm_ (a' := ?_) ?_ ?_
           rotate_left
           ·
            simp only [putAll, Act.put, List.setIfInBounds_toArray, List.set_cons_zero, List.set_cons_succ]
            rfl
           refine two_ (i := 3) (j := 5) (Ni := some 22) (Nj := some 6) #[true, true, true, true, true, false, false, false] #[true, true, true, false, true, true, false, false] rfl rfl rfl rfl (two_of HT_.out (by kernel_rfl)) (by decide) (by decide) (fun K hK => ?_) (fun K hK => ?_)
           ·
            skip
            refine goes_ Try.func12 (by kernel_rfl) rfl #[.agg #[.int .u32 a1_0, .int .i64 a1_1, .slice A1_2 l1_2.length c1_2, .slice A1_3 l1_3.length c1_3, .int .u32 a1_4, .int .u32 a1_5, .int .i64 a1_6, .int .u32 a1_7]] (by rfl) rfl rfl (by (try simp only [List.map_toArray, List.map_cons, List.map_nil]); first | done | rfl | (simp only [List.length_drop, List.length_take]; rfl)) ?_
            with_reducible refine (q4z.calls a1_0 a1_1 _ _ l1_2 _ _ l1_3 a1_4 a1_5 a1_6 a1_7 t14 t15 t16 t19 t22 t23 t24 t25 _ ?side1 ?side2 ?side3 ?side4 A22.out).mono ?_
            (case side1 => repeat (first | exact (Kd.C_below HR1_2.out HB.out) | (with_reducible refine Kd.C_alloc ?_ _) | (with_reducible refine Kd.C_drewN ?_ _) | (with_reducible refine Kd.C_drew ?_)))
            (case side2 => exact HC1_2.out)
            (case side3 => repeat (first | exact (Kd.C_below HR1_3.out HB.out) | (with_reducible refine Kd.C_alloc ?_ _) | (with_reducible refine Kd.C_drewN ?_ _) | (with_reducible refine Kd.C_drew ?_)))
            (case side4 => exact HC1_3.out)
            rintro e w29 ⟨v17, v20, rfl, ho0, ho1, hb⟩
            refine ⟨_, rfl, ?_⟩
            have HO18 := Aside0.mk (Kd.R_lower (Kd.R_new' ho0 (Kd.R_lt (rW HO10))) (below_size (hbW HB)))
            have HO21 := Aside0.mk (Kd.R_lower (Kd.R_new' ho1 (Kd.R_lt (rW HO10))) (below_size (hbW HB)))
            replace HO10 := Aside0.mk (Kd.R_mono (Kd.R_told (Kd.R_told (Kd.R_old (rW HO10) hb) (Kd.R_base ho0)) (Kd.R_base ho1)) (fun _ h_ => h_.1))
            replace HO13 := Aside0.mk (Kd.S_below (by (with_reducible repeat (first | apply Kd.S_alloc | apply Kd.S_drewN | apply Kd.S_drew)); exact HO13.out) hb)
            replace BK1 := bkB BK1 hb
            replace BK2 := bkB BK2 hb
            replace BK26 := bkB BK26 hb
            replace HB := hbS HB hb
            (try clear hb)
            (try clear ho0)
            (try clear ho1)
            refine hK.out _ _ (bk4 BK1 (bl8 BK2)) (fun hHeld => ?_)
            clear hK K
            refine norm_ (a' := ?_) ?_ ?_
            rotate_left
            ·
             show Act.put _ (some 22) _ = _
             simp only [Act.put, List.setIfInBounds_toArray, List.set_cons_zero, List.set_cons_succ, i64_w, i32_w, IntKind.wrap_u32]
             rfl
            exact norm_ (by first | (simp only [putAll, Act.put, List.setIfInBounds_toArray, List.set_cons_zero, List.set_cons_succ]; done) | (simp only [putAll, Act.put, List.setIfInBounds_toArray, List.set_cons_zero, List.set_cons_succ]; rfl)) (hJ1_3_4 (v9, v12, v17, v20, gb26) _ ⟨hHeld, (by (with_reducible repeat (first | apply Kd.R_alloc | apply Kd.R_drewN | apply Kd.R_drew)); exact Kd.R_mono HO10.out (fun _ hk => ⟨hk.1.2, hk.2⟩)), (by (with_reducible repeat (first | apply Kd.S_alloc | apply Kd.S_drewN | apply Kd.S_drew)); exact HO13.out), (by (with_reducible repeat (first | apply Kd.R_alloc | apply Kd.R_drewN | apply Kd.R_drew)); exact Kd.R_mono HO18.out (fun _ hk => ⟨hk.2, hk.1⟩)), (by (with_reducible repeat (first | apply Kd.R_alloc | apply Kd.R_drewN | apply Kd.R_drew)); exact Kd.R_mono HO21.out (fun _ hk => ⟨hk.2, hk.1⟩)), (bkW BK1), (bkW BK2), (bkW BK26), GW26.out, GE26.out, NB1_26.out, NB26_1.out, NB2_26.out, NB26_2.out, (hbW HB)⟩)
           ·
            skip
            refine box_step ?hg (N := 6) ?hd (cs := #[.int .u32 0, .int .i64 0, .slice none 0 0, .slice none 0 0, .int .u32 0, .int .u32 0, .int .i64 0, .int .u32 0]) (t := 30) ?hr ?_; (case hd => rfl); (case hg => rfl); (case hr => first | (go_simp; done) | (go_simp; rfl))
            intro gb27 hg w29 hbox hb
            have BK27 := Aside0.mk (hbox)
            have GW27 := gwS hg HB
            have GE27 := gwS hg HB
            have NB1_27 := nbL hg BK1
            have NB27_1 := nbG hg BK1
            have NB2_27 := nbL hg BK2
            have NB27_2 := nbG hg BK2
            have NB26_27 := nbL hg BK26
            have NB27_26 := nbG hg BK26
            replace HO10 := Aside0.mk (Kd.R_below (rW HO10) hb)
            replace HO13 := Aside0.mk (Kd.S_below (by (with_reducible repeat (first | apply Kd.S_alloc | apply Kd.S_drewN | apply Kd.S_drew)); exact HO13.out) hb)
            replace BK1 := bkB BK1 hb
            replace BK2 := bkB BK2 hb
            replace BK26 := bkB BK26 hb
            replace HB := hbS HB hb
            clear hb hbox hg
            refine hK.out _ _ (bk4 BK1 (bl8 BK2)) (fun hHeld => ?_)
            clear hK K
            refine norm_ (a' := ?_) ?_ ?_
            rotate_left
            ·
             show Act.put _ (some 6) _ = _
             simp only [Act.put, List.setIfInBounds_toArray, List.set_cons_zero, List.set_cons_succ, i64_w, i32_w, IntKind.wrap_u32]
             rfl
            exact norm_ (by first | (simp only [putAll, Act.put, List.setIfInBounds_toArray, List.set_cons_zero, List.set_cons_succ]; done) | (simp only [putAll, Act.put, List.setIfInBounds_toArray, List.set_cons_zero, List.set_cons_succ]; rfl)) (hJ1_4_5 (v9, v12, gb26, gb27) _ ⟨hHeld, (rW HO10), (by (with_reducible repeat (first | apply Kd.S_alloc | apply Kd.S_drewN | apply Kd.S_drew)); exact HO13.out), (bkW BK1), (bkW BK2), (bkW BK26), (bkW BK27), GW26.out, GE26.out, NB1_26.out, NB26_1.out, NB2_26.out, NB26_2.out, NB27_26.out, NB26_27.out, GW27.out, GE27.out, NB1_27.out, NB27_1.out, NB2_27.out, NB27_2.out, (hbW HB)⟩)
         ·
          skip
          rintro ⟨v9, v12, v17, v20⟩ w28 ⟨hS_, h0_, h1_, h2_, h3_, h4_, h5_, h6_⟩
          have n0_ : Aside0 (Kd.R (Kd.int .u32) 22 w28 w.heap.size (fun k_ => some k_ ≠ (v17 : Value).ownBlock ∧ some k_ ≠ (v20 : Value).ownBlock) v9 t8) := ⟨h0_⟩
          have n1_ : Aside0 (Kd.S k53 53 w28 w.heap.size (fun _ => True) v12 t11) := ⟨h1_⟩
          have n2_ : Aside0 (Kd.R (Kd.int .u32) 22 w28 w.heap.size (fun k_ => some k_ ≠ (v9 : Value).ownBlock ∧ some k_ ≠ (v20 : Value).ownBlock) v17 t16) := ⟨h2_⟩
          have n3_ : Aside0 (Kd.R (Kd.int .u32) 22 w28 w.heap.size (fun k_ => some k_ ≠ (v9 : Value).ownBlock ∧ some k_ ≠ (v17 : Value).ownBlock) v20 t19) := ⟨h3_⟩
          have n4_ : Aside0 (w28.heap[gb1]? = some (.cells #[.int .i64 a0_0, .int .u32 a0_1, .slice A0_2 l0_2.length c0_2, .slice A0_3 l0_3.length c0_3] 26 (0, 0))) := ⟨h4_⟩
          have n5_ : Aside0 (w28.heap[gb2]? = some (.cells #[.int .u32 a1_0, .int .i64 a1_1, .slice A1_2 l1_2.length c1_2, .slice A1_3 l1_3.length c1_3, .int .u32 a1_4, .int .u32 a1_5, .int .i64 a1_6, .int .u32 a1_7] 30 (0, 0))) := ⟨h5_⟩
          have n6_ : Aside0 (Below w.heap.size w w28) := ⟨h6_⟩
          clear BK1 BK2 HB h0_ h1_ h2_ h3_ h4_ h5_ h6_
          have HO10 := n0_
          have HO13 := n1_
          have HO18 := n2_
          have HO21 := n3_
          have BK1 := n4_
          have BK2 := n5_
          have HB := n6_
          clear n0_ n1_ n2_ n3_ n4_ n5_ n6_
          have hHeld : w28.cell? ⟨gb1, 0, none⟩ = some (.int .i64 a0_0) ∧ w28.cell? ⟨gb1, 1, none⟩ = some (.int .u32 a0_1) ∧ w28.cell? ⟨gb1, 2, none⟩ = some (.slice A0_2 l0_2.length c0_2) ∧ w28.cell? ⟨gb1, 3, none⟩ = some (.slice A0_3 l0_3.length c0_3) ∧ w28.cell? ⟨gb2, 0, none⟩ = some (.int .u32 a1_0) ∧ w28.cell? ⟨gb2, 1, none⟩ = some (.int .i64 a1_1) ∧ w28.cell? ⟨gb2, 2, none⟩ = some (.slice A1_2 l1_2.length c1_2) ∧ w28.cell? ⟨gb2, 3, none⟩ = some (.slice A1_3 l1_3.length c1_3) ∧ w28.cell? ⟨gb2, 4, none⟩ = some (.int .u32 a1_4) ∧ w28.cell? ⟨gb2, 5, none⟩ = some (.int .u32 a1_5) ∧ w28.cell? ⟨gb2, 6, none⟩ = some (.int .i64 a1_6) ∧ w28.cell? ⟨gb2, 7, none⟩ = some (.int .u32 a1_7) := hS_
          refine norm_ (a' := ?_) ?_ ?_
          rotate_left
          ·
           simp only [putAll, Act.put, List.setIfInBounds_toArray, List.set_cons_zero, List.set_cons_succ]
           rfl
          refine two_ (i := 4) (j := 5) (Ni := some 5) (Nj := some 6) #[true, true, true, true, true, false, false, false] #[true, true, true, true, false, true, false, false] rfl rfl rfl rfl (two_of HT_.out (by kernel_rfl)) (by decide) (by decide) (fun K hK => ?_) (fun K hK => ?_)
          ·
           skip
           refine box_step ?hg (N := 5) ?hd (cs := #[.int .i64 0, .int .u32 0, .slice none 0 0, .slice none 0 0]) (t := 26) ?hr ?_; (case hd => rfl); (case hg => rfl); (case hr => first | (go_simp; done) | (go_simp; rfl))
           intro gb26 hg w29 hbox hb
           have BK26 := Aside0.mk (hbox)
           have GW26 := gwS hg HB
           have GE26 := gwS hg HB
           have NB1_26 := nbL hg BK1
           have NB26_1 := nbG hg BK1
           have NB2_26 := nbL hg BK2
           have NB26_2 := nbG hg BK2
           replace HO10 := Aside0.mk (Kd.R_below (rW HO10) hb)
           replace HO13 := Aside0.mk (Kd.S_below (by (with_reducible repeat (first | apply Kd.S_alloc | apply Kd.S_drewN | apply Kd.S_drew)); exact HO13.out) hb)
           replace HO18 := Aside0.mk (Kd.R_below (rW HO18) hb)
           replace HO21 := Aside0.mk (Kd.R_below (rW HO21) hb)
           replace BK1 := bkB BK1 hb
           replace BK2 := bkB BK2 hb
           replace HB := hbS HB hb
           clear hb hbox hg
           refine hK.out _ _ (bk4 BK1 (bl8 BK2)) (fun hHeld => ?_)
           clear hK K
           refine norm_ (a' := ?_) ?_ ?_
           rotate_left
           ·
            show Act.put _ (some 5) _ = _
            simp only [Act.put, List.setIfInBounds_toArray, List.set_cons_zero, List.set_cons_succ, i64_w, i32_w, IntKind.wrap_u32]
            rfl
           exact norm_ (by first | (simp only [putAll, Act.put, List.setIfInBounds_toArray, List.set_cons_zero, List.set_cons_succ]; done) | (simp only [putAll, Act.put, List.setIfInBounds_toArray, List.set_cons_zero, List.set_cons_succ]; rfl)) (hJ1_3_4 (v9, v12, v17, v20, gb26) _ ⟨hHeld, (rW HO10), (by (with_reducible repeat (first | apply Kd.S_alloc | apply Kd.S_drewN | apply Kd.S_drew)); exact HO13.out), (rW HO18), (rW HO21), (bkW BK1), (bkW BK2), (bkW BK26), GW26.out, GE26.out, NB1_26.out, NB26_1.out, NB2_26.out, NB26_2.out, (hbW HB)⟩)
          ·
           skip
           refine box_step ?hg (N := 6) ?hd (cs := #[.int .u32 0, .int .i64 0, .slice none 0 0, .slice none 0 0, .int .u32 0, .int .u32 0, .int .i64 0, .int .u32 0]) (t := 30) ?hr ?_; (case hd => rfl); (case hg => rfl); (case hr => first | (go_simp; done) | (go_simp; rfl))
           intro gb27 hg w29 hbox hb
           have BK27 := Aside0.mk (hbox)
           have GW27 := gwS hg HB
           have GE27 := gwS hg HB
           have NB1_27 := nbL hg BK1
           have NB27_1 := nbG hg BK1
           have NB2_27 := nbL hg BK2
           have NB27_2 := nbG hg BK2
           replace HO10 := Aside0.mk (Kd.R_below (rW HO10) hb)
           replace HO13 := Aside0.mk (Kd.S_below (by (with_reducible repeat (first | apply Kd.S_alloc | apply Kd.S_drewN | apply Kd.S_drew)); exact HO13.out) hb)
           replace HO18 := Aside0.mk (Kd.R_below (rW HO18) hb)
           replace HO21 := Aside0.mk (Kd.R_below (rW HO21) hb)
           replace BK1 := bkB BK1 hb
           replace BK2 := bkB BK2 hb
           replace HB := hbS HB hb
           clear hb hbox hg
           refine hK.out _ _ (bk4 BK1 (bl8 BK2)) (fun hHeld => ?_)
           clear hK K
           refine norm_ (a' := ?_) ?_ ?_
           rotate_left
           ·
            show Act.put _ (some 6) _ = _
            simp only [Act.put, List.setIfInBounds_toArray, List.set_cons_zero, List.set_cons_succ, i64_w, i32_w, IntKind.wrap_u32]
            rfl
           exact norm_ (by first | (simp only [putAll, Act.put, List.setIfInBounds_toArray, List.set_cons_zero, List.set_cons_succ]; done) | (simp only [putAll, Act.put, List.setIfInBounds_toArray, List.set_cons_zero, List.set_cons_succ]; rfl)) (hJ1_3_5 (v9, v12, v17, v20, gb27) _ ⟨hHeld, (rW HO10), (by (with_reducible repeat (first | apply Kd.S_alloc | apply Kd.S_drewN | apply Kd.S_drew)); exact HO13.out), (rW HO18), (rW HO21), (bkW BK1), (bkW BK2), (bkW BK27), GW27.out, GE27.out, NB1_27.out, NB27_1.out, NB2_27.out, NB27_2.out, (hbW HB)⟩)
        ·
         skip
         rintro ⟨v9, v12, gb26, gb27⟩ w29 ⟨hS_, h0_, h1_, h2_, h3_, h4_, h5_, h6_, h7_, h8_, h9_, h10_, h11_, h12_, h13_, h14_, h15_, h16_, h17_, h18_, h19_, h20_⟩
         have n0_ : Aside0 (Kd.R (Kd.int .u32) 22 w29 w.heap.size (fun _ => True) v9 t8) := ⟨h0_⟩
         have n1_ : Aside0 (Kd.S k53 53 w29 w.heap.size (fun _ => True) v12 t11) := ⟨h1_⟩
         have n2_ : Aside0 (w29.heap[gb1]? = some (.cells #[.int .i64 a0_0, .int .u32 a0_1, .slice A0_2 l0_2.length c0_2, .slice A0_3 l0_3.length c0_3] 26 (0, 0))) := ⟨h2_⟩
         have n3_ : Aside0 (w29.heap[gb2]? = some (.cells #[.int .u32 a1_0, .int .i64 a1_1, .slice A1_2 l1_2.length c1_2, .slice A1_3 l1_3.length c1_3, .int .u32 a1_4, .int .u32 a1_5, .int .i64 a1_6, .int .u32 a1_7] 30 (0, 0))) := ⟨h3_⟩
         have n4_ : Aside0 (w29.heap[gb26]? = some (.cells #[.int .i64 0, .int .u32 0, .slice none 0 0, .slice none 0 0] 26 (0, 0))) := ⟨h4_⟩
         have n5_ : Aside0 (w29.heap[gb27]? = some (.cells #[.int .u32 0, .int .i64 0, .slice none 0 0, .slice none 0 0, .int .u32 0, .int .u32 0, .int .i64 0, .int .u32 0] 30 (0, 0))) := ⟨h5_⟩
         have n6_ : Aside0 (w.heap.size ≤ gb26) := ⟨h6_⟩
         have n7_ : Aside0 (w.heap.size ≤ gb26) := ⟨h7_⟩
         have n8_ : Aside0 (gb1 ≠ gb26) := ⟨h8_⟩
         have n9_ : Aside0 (gb26 ≠ gb1) := ⟨h9_⟩
         have n10_ : Aside0 (gb2 ≠ gb26) := ⟨h10_⟩
         have n11_ : Aside0 (gb26 ≠ gb2) := ⟨h11_⟩
         have n12_ : Aside0 (gb27 ≠ gb26) := ⟨h12_⟩
         have n13_ : Aside0 (gb26 ≠ gb27) := ⟨h13_⟩
         have n14_ : Aside0 (w.heap.size ≤ gb27) := ⟨h14_⟩
         have n15_ : Aside0 (w.heap.size ≤ gb27) := ⟨h15_⟩
         have n16_ : Aside0 (gb1 ≠ gb27) := ⟨h16_⟩
         have n17_ : Aside0 (gb27 ≠ gb1) := ⟨h17_⟩
         have n18_ : Aside0 (gb2 ≠ gb27) := ⟨h18_⟩
         have n19_ : Aside0 (gb27 ≠ gb2) := ⟨h19_⟩
         have n20_ : Aside0 (Below w.heap.size w w29) := ⟨h20_⟩
         clear BK1 BK2 HB h0_ h1_ h2_ h3_ h4_ h5_ h6_ h7_ h8_ h9_ h10_ h11_ h12_ h13_ h14_ h15_ h16_ h17_ h18_ h19_ h20_
         have HO10 := n0_
         have HO13 := n1_
         have BK1 := n2_
         have BK2 := n3_
         have BK26 := n4_
         have BK27 := n5_
         have GW26 := n6_
         have GE26 := n7_
         have NB1_26 := n8_
         have NB26_1 := n9_
         have NB2_26 := n10_
         have NB26_2 := n11_
         have NB27_26 := n12_
         have NB26_27 := n13_
         have GW27 := n14_
         have GE27 := n15_
         have NB1_27 := n16_
         have NB27_1 := n17_
         have NB2_27 := n18_
         have NB27_2 := n19_
         have HB := n20_
         clear n0_ n1_ n2_ n3_ n4_ n5_ n6_ n7_ n8_ n9_ n10_ n11_ n12_ n13_ n14_ n15_ n16_ n17_ n18_ n19_ n20_
         have hHeld : w29.cell? ⟨gb1, 0, none⟩ = some (.int .i64 a0_0) ∧ w29.cell? ⟨gb1, 1, none⟩ = some (.int .u32 a0_1) ∧ w29.cell? ⟨gb1, 2, none⟩ = some (.slice A0_2 l0_2.length c0_2) ∧ w29.cell? ⟨gb1, 3, none⟩ = some (.slice A0_3 l0_3.length c0_3) ∧ w29.cell? ⟨gb2, 0, none⟩ = some (.int .u32 a1_0) ∧ w29.cell? ⟨gb2, 1, none⟩ = some (.int .i64 a1_1) ∧ w29.cell? ⟨gb2, 2, none⟩ = some (.slice A1_2 l1_2.length c1_2) ∧ w29.cell? ⟨gb2, 3, none⟩ = some (.slice A1_3 l1_3.length c1_3) ∧ w29.cell? ⟨gb2, 4, none⟩ = some (.int .u32 a1_4) ∧ w29.cell? ⟨gb2, 5, none⟩ = some (.int .u32 a1_5) ∧ w29.cell? ⟨gb2, 6, none⟩ = some (.int .i64 a1_6) ∧ w29.cell? ⟨gb2, 7, none⟩ = some (.int .u32 a1_7) := hS_
         refine norm_ (a' := ?_) ?_ ?_
         rotate_left
         ·
          simp only [putAll, Act.put, List.setIfInBounds_toArray, List.set_cons_zero, List.set_cons_succ]
          rfl
         refine one_ (i := 3) (N := some 22) #[true, true, true, true, true, true, false, false] rfl rfl (one_of HT_.out (by kernel_rfl)) (by decide) (fun K hK => ?_)
         refine goes_ Try.func12 (by kernel_rfl) rfl #[.agg #[.int .u32 a1_0, .int .i64 a1_1, .slice A1_2 l1_2.length c1_2, .slice A1_3 l1_3.length c1_3, .int .u32 a1_4, .int .u32 a1_5, .int .i64 a1_6, .int .u32 a1_7]] (by rfl) rfl rfl (by (try simp only [List.map_toArray, List.map_cons, List.map_nil]); first | done | rfl | (simp only [List.length_drop, List.length_take]; rfl)) ?_
         with_reducible refine (q4z.calls a1_0 a1_1 _ _ l1_2 _ _ l1_3 a1_4 a1_5 a1_6 a1_7 t14 t15 t16 t19 t22 t23 t24 t25 _ ?side1 ?side2 ?side3 ?side4 A22.out).mono ?_
         (case side1 => repeat (first | exact (Kd.C_below HR1_2.out HB.out) | (with_reducible refine Kd.C_alloc ?_ _) | (with_reducible refine Kd.C_drewN ?_ _) | (with_reducible refine Kd.C_drew ?_)))
         (case side2 => exact HC1_2.out)
         (case side3 => repeat (first | exact (Kd.C_below HR1_3.out HB.out) | (with_reducible refine Kd.C_alloc ?_ _) | (with_reducible refine Kd.C_drewN ?_ _) | (with_reducible refine Kd.C_drew ?_)))
         (case side4 => exact HC1_3.out)
         rintro e w30 ⟨v17, v20, rfl, ho0, ho1, hb⟩
         refine ⟨_, rfl, ?_⟩
         have HO18 := Aside0.mk (Kd.R_lower (Kd.R_new' ho0 (Kd.R_lt (rW HO10))) (below_size (hbW HB)))
         have HO21 := Aside0.mk (Kd.R_lower (Kd.R_new' ho1 (Kd.R_lt (rW HO10))) (below_size (hbW HB)))
         replace HO10 := Aside0.mk (Kd.R_mono (Kd.R_told (Kd.R_told (Kd.R_old (rW HO10) hb) (Kd.R_base ho0)) (Kd.R_base ho1)) (fun _ h_ => h_.1))
         replace HO13 := Aside0.mk (Kd.S_below (by (with_reducible repeat (first | apply Kd.S_alloc | apply Kd.S_drewN | apply Kd.S_drew)); exact HO13.out) hb)
         replace BK1 := bkB BK1 hb
         replace BK2 := bkB BK2 hb
         replace BK26 := bkB BK26 hb
         replace BK27 := bkB BK27 hb
         replace HB := hbS HB hb
         (try clear hb)
         (try clear ho0)
         (try clear ho1)
         refine hK.out _ _ (bk4 BK1 (bl8 BK2)) (fun hHeld => ?_)
         clear hK K
         refine norm_ (a' := ?_) ?_ ?_
         rotate_left
         ·
          show Act.put _ (some 22) _ = _
          simp only [Act.put, List.setIfInBounds_toArray, List.set_cons_zero, List.set_cons_succ, i64_w, i32_w, IntKind.wrap_u32]
          rfl
         exact norm_ (by first | (simp only [putAll, Act.put, List.setIfInBounds_toArray, List.set_cons_zero, List.set_cons_succ]; done) | (simp only [putAll, Act.put, List.setIfInBounds_toArray, List.set_cons_zero, List.set_cons_succ]; rfl)) (hJ1_3_4_5 (v9, v12, v17, v20, gb26, gb27) _ ⟨hHeld, (by (with_reducible repeat (first | apply Kd.R_alloc | apply Kd.R_drewN | apply Kd.R_drew)); exact Kd.R_mono HO10.out (fun _ hk => ⟨hk.1.2, hk.2⟩)), (by (with_reducible repeat (first | apply Kd.S_alloc | apply Kd.S_drewN | apply Kd.S_drew)); exact HO13.out), (by (with_reducible repeat (first | apply Kd.R_alloc | apply Kd.R_drewN | apply Kd.R_drew)); exact Kd.R_mono HO18.out (fun _ hk => ⟨hk.2, hk.1⟩)), (by (with_reducible repeat (first | apply Kd.R_alloc | apply Kd.R_drewN | apply Kd.R_drew)); exact Kd.R_mono HO21.out (fun _ hk => ⟨hk.2, hk.1⟩)), (bkW BK1), (bkW BK2), (bkW BK26), (bkW BK27), GW26.out, GE26.out, NB1_26.out, NB26_1.out, NB2_26.out, NB26_2.out, NB27_26.out, NB26_27.out, GW27.out, GE27.out, NB1_27.out, NB27_1.out, NB2_27.out, NB27_2.out, (hbW HB)⟩)
       ·
        skip
        rintro ⟨v9, v12, v17, v20, gb27⟩ w29 ⟨hS_, h0_, h1_, h2_, h3_, h4_, h5_, h6_, h7_, h8_, h9_, h10_, h11_, h12_, h13_⟩
        have n0_ : Aside0 (Kd.R (Kd.int .u32) 22 w29 w.heap.size (fun k_ => some k_ ≠ (v17 : Value).ownBlock ∧ some k_ ≠ (v20 : Value).ownBlock) v9 t8) := ⟨h0_⟩
        have n1_ : Aside0 (Kd.S k53 53 w29 w.heap.size (fun _ => True) v12 t11) := ⟨h1_⟩
        have n2_ : Aside0 (Kd.R (Kd.int .u32) 22 w29 w.heap.size (fun k_ => some k_ ≠ (v9 : Value).ownBlock ∧ some k_ ≠ (v20 : Value).ownBlock) v17 t16) := ⟨h2_⟩
        have n3_ : Aside0 (Kd.R (Kd.int .u32) 22 w29 w.heap.size (fun k_ => some k_ ≠ (v9 : Value).ownBlock ∧ some k_ ≠ (v17 : Value).ownBlock) v20 t19) := ⟨h3_⟩
        have n4_ : Aside0 (w29.heap[gb1]? = some (.cells #[.int .i64 a0_0, .int .u32 a0_1, .slice A0_2 l0_2.length c0_2, .slice A0_3 l0_3.length c0_3] 26 (0, 0))) := ⟨h4_⟩
        have n5_ : Aside0 (w29.heap[gb2]? = some (.cells #[.int .u32 a1_0, .int .i64 a1_1, .slice A1_2 l1_2.length c1_2, .slice A1_3 l1_3.length c1_3, .int .u32 a1_4, .int .u32 a1_5, .int .i64 a1_6, .int .u32 a1_7] 30 (0, 0))) := ⟨h5_⟩
        have n6_ : Aside0 (w29.heap[gb27]? = some (.cells #[.int .u32 0, .int .i64 0, .slice none 0 0, .slice none 0 0, .int .u32 0, .int .u32 0, .int .i64 0, .int .u32 0] 30 (0, 0))) := ⟨h6_⟩
        have n7_ : Aside0 (w.heap.size ≤ gb27) := ⟨h7_⟩
        have n8_ : Aside0 (w.heap.size ≤ gb27) := ⟨h8_⟩
        have n9_ : Aside0 (gb1 ≠ gb27) := ⟨h9_⟩
        have n10_ : Aside0 (gb27 ≠ gb1) := ⟨h10_⟩
        have n11_ : Aside0 (gb2 ≠ gb27) := ⟨h11_⟩
        have n12_ : Aside0 (gb27 ≠ gb2) := ⟨h12_⟩
        have n13_ : Aside0 (Below w.heap.size w w29) := ⟨h13_⟩
        clear BK1 BK2 HB h0_ h1_ h2_ h3_ h4_ h5_ h6_ h7_ h8_ h9_ h10_ h11_ h12_ h13_
        have HO10 := n0_
        have HO13 := n1_
        have HO18 := n2_
        have HO21 := n3_
        have BK1 := n4_
        have BK2 := n5_
        have BK27 := n6_
        have GW27 := n7_
        have GE27 := n8_
        have NB1_27 := n9_
        have NB27_1 := n10_
        have NB2_27 := n11_
        have NB27_2 := n12_
        have HB := n13_
        clear n0_ n1_ n2_ n3_ n4_ n5_ n6_ n7_ n8_ n9_ n10_ n11_ n12_ n13_
        have hHeld : w29.cell? ⟨gb1, 0, none⟩ = some (.int .i64 a0_0) ∧ w29.cell? ⟨gb1, 1, none⟩ = some (.int .u32 a0_1) ∧ w29.cell? ⟨gb1, 2, none⟩ = some (.slice A0_2 l0_2.length c0_2) ∧ w29.cell? ⟨gb1, 3, none⟩ = some (.slice A0_3 l0_3.length c0_3) ∧ w29.cell? ⟨gb2, 0, none⟩ = some (.int .u32 a1_0) ∧ w29.cell? ⟨gb2, 1, none⟩ = some (.int .i64 a1_1) ∧ w29.cell? ⟨gb2, 2, none⟩ = some (.slice A1_2 l1_2.length c1_2) ∧ w29.cell? ⟨gb2, 3, none⟩ = some (.slice A1_3 l1_3.length c1_3) ∧ w29.cell? ⟨gb2, 4, none⟩ = some (.int .u32 a1_4) ∧ w29.cell? ⟨gb2, 5, none⟩ = some (.int .u32 a1_5) ∧ w29.cell? ⟨gb2, 6, none⟩ = some (.int .i64 a1_6) ∧ w29.cell? ⟨gb2, 7, none⟩ = some (.int .u32 a1_7) := hS_
        refine norm_ (a' := ?_) ?_ ?_
        rotate_left
        ·
         simp only [putAll, Act.put, List.setIfInBounds_toArray, List.set_cons_zero, List.set_cons_succ]
         rfl
        refine one_ (i := 4) (N := some 5) #[true, true, true, true, true, true, false, false] rfl rfl (one_of HT_.out (by kernel_rfl)) (by decide) (fun K hK => ?_)
        refine box_step ?hg (N := 5) ?hd (cs := #[.int .i64 0, .int .u32 0, .slice none 0 0, .slice none 0 0]) (t := 26) ?hr ?_; (case hd => rfl); (case hg => rfl); (case hr => first | (go_simp; done) | (go_simp; rfl))
        intro gb26 hg w30 hbox hb
        have BK26 := Aside0.mk (hbox)
        have GW26 := gwS hg HB
        have GE26 := gwS hg HB
        have NB1_26 := nbL hg BK1
        have NB26_1 := nbG hg BK1
        have NB2_26 := nbL hg BK2
        have NB26_2 := nbG hg BK2
        have NB27_26 := nbL hg BK27
        have NB26_27 := nbG hg BK27
        replace HO10 := Aside0.mk (Kd.R_below (rW HO10) hb)
        replace HO13 := Aside0.mk (Kd.S_below (by (with_reducible repeat (first | apply Kd.S_alloc | apply Kd.S_drewN | apply Kd.S_drew)); exact HO13.out) hb)
        replace HO18 := Aside0.mk (Kd.R_below (rW HO18) hb)
        replace HO21 := Aside0.mk (Kd.R_below (rW HO21) hb)
        replace BK1 := bkB BK1 hb
        replace BK2 := bkB BK2 hb
        replace BK27 := bkB BK27 hb
        replace HB := hbS HB hb
        clear hb hbox hg
        refine hK.out _ _ (bk4 BK1 (bl8 BK2)) (fun hHeld => ?_)
        clear hK K
        refine norm_ (a' := ?_) ?_ ?_
        rotate_left
        ·
         show Act.put _ (some 5) _ = _
         simp only [Act.put, List.setIfInBounds_toArray, List.set_cons_zero, List.set_cons_succ, i64_w, i32_w, IntKind.wrap_u32]
         rfl
        exact norm_ (by first | (simp only [putAll, Act.put, List.setIfInBounds_toArray, List.set_cons_zero, List.set_cons_succ]; done) | (simp only [putAll, Act.put, List.setIfInBounds_toArray, List.set_cons_zero, List.set_cons_succ]; rfl)) (hJ1_3_4_5 (v9, v12, v17, v20, gb26, gb27) _ ⟨hHeld, (rW HO10), (by (with_reducible repeat (first | apply Kd.S_alloc | apply Kd.S_drewN | apply Kd.S_drew)); exact HO13.out), (rW HO18), (rW HO21), (bkW BK1), (bkW BK2), (bkW BK26), (bkW BK27), GW26.out, GE26.out, NB1_26.out, NB26_1.out, NB2_26.out, NB26_2.out, NB27_26.out, NB26_27.out, GW27.out, GE27.out, NB1_27.out, NB27_1.out, NB2_27.out, NB27_2.out, (hbW HB)⟩)
      ·
       skip
       rintro ⟨v9, v12, v17, v20, gb26⟩ w29 ⟨hS_, h0_, h1_, h2_, h3_, h4_, h5_, h6_, h7_, h8_, h9_, h10_, h11_, h12_, h13_⟩
       have n0_ : Aside0 (Kd.R (Kd.int .u32) 22 w29 w.heap.size (fun k_ => some k_ ≠ (v17 : Value).ownBlock ∧ some k_ ≠ (v20 : Value).ownBlock) v9 t8) := ⟨h0_⟩
       have n1_ : Aside0 (Kd.S k53 53 w29 w.heap.size (fun _ => True) v12 t11) := ⟨h1_⟩
       have n2_ : Aside0 (Kd.R (Kd.int .u32) 22 w29 w.heap.size (fun k_ => some k_ ≠ (v9 : Value).ownBlock ∧ some k_ ≠ (v20 : Value).ownBlock) v17 t16) := ⟨h2_⟩
       have n3_ : Aside0 (Kd.R (Kd.int .u32) 22 w29 w.heap.size (fun k_ => some k_ ≠ (v9 : Value).ownBlock ∧ some k_ ≠ (v17 : Value).ownBlock) v20 t19) := ⟨h3_⟩
       have n4_ : Aside0 (w29.heap[gb1]? = some (.cells #[.int .i64 a0_0, .int .u32 a0_1, .slice A0_2 l0_2.length c0_2, .slice A0_3 l0_3.length c0_3] 26 (0, 0))) := ⟨h4_⟩
       have n5_ : Aside0 (w29.heap[gb2]? = some (.cells #[.int .u32 a1_0, .int .i64 a1_1, .slice A1_2 l1_2.length c1_2, .slice A1_3 l1_3.length c1_3, .int .u32 a1_4, .int .u32 a1_5, .int .i64 a1_6, .int .u32 a1_7] 30 (0, 0))) := ⟨h5_⟩
       have n6_ : Aside0 (w29.heap[gb26]? = some (.cells #[.int .i64 0, .int .u32 0, .slice none 0 0, .slice none 0 0] 26 (0, 0))) := ⟨h6_⟩
       have n7_ : Aside0 (w.heap.size ≤ gb26) := ⟨h7_⟩
       have n8_ : Aside0 (w.heap.size ≤ gb26) := ⟨h8_⟩
       have n9_ : Aside0 (gb1 ≠ gb26) := ⟨h9_⟩
       have n10_ : Aside0 (gb26 ≠ gb1) := ⟨h10_⟩
       have n11_ : Aside0 (gb2 ≠ gb26) := ⟨h11_⟩
       have n12_ : Aside0 (gb26 ≠ gb2) := ⟨h12_⟩
       have n13_ : Aside0 (Below w.heap.size w w29) := ⟨h13_⟩
       clear BK1 BK2 HB h0_ h1_ h2_ h3_ h4_ h5_ h6_ h7_ h8_ h9_ h10_ h11_ h12_ h13_
       have HO10 := n0_
       have HO13 := n1_
       have HO18 := n2_
       have HO21 := n3_
       have BK1 := n4_
       have BK2 := n5_
       have BK26 := n6_
       have GW26 := n7_
       have GE26 := n8_
       have NB1_26 := n9_
       have NB26_1 := n10_
       have NB2_26 := n11_
       have NB26_2 := n12_
       have HB := n13_
       clear n0_ n1_ n2_ n3_ n4_ n5_ n6_ n7_ n8_ n9_ n10_ n11_ n12_ n13_
       have hHeld : w29.cell? ⟨gb1, 0, none⟩ = some (.int .i64 a0_0) ∧ w29.cell? ⟨gb1, 1, none⟩ = some (.int .u32 a0_1) ∧ w29.cell? ⟨gb1, 2, none⟩ = some (.slice A0_2 l0_2.length c0_2) ∧ w29.cell? ⟨gb1, 3, none⟩ = some (.slice A0_3 l0_3.length c0_3) ∧ w29.cell? ⟨gb2, 0, none⟩ = some (.int .u32 a1_0) ∧ w29.cell? ⟨gb2, 1, none⟩ = some (.int .i64 a1_1) ∧ w29.cell? ⟨gb2, 2, none⟩ = some (.slice A1_2 l1_2.length c1_2) ∧ w29.cell? ⟨gb2, 3, none⟩ = some (.slice A1_3 l1_3.length c1_3) ∧ w29.cell? ⟨gb2, 4, none⟩ = some (.int .u32 a1_4) ∧ w29.cell? ⟨gb2, 5, none⟩ = some (.int .u32 a1_5) ∧ w29.cell? ⟨gb2, 6, none⟩ = some (.int .i64 a1_6) ∧ w29.cell? ⟨gb2, 7, none⟩ = some (.int .u32 a1_7) := hS_
       refine norm_ (a' := ?_) ?_ ?_
       rotate_left
       ·
        simp only [putAll, Act.put, List.setIfInBounds_toArray, List.set_cons_zero, List.set_cons_succ]
        rfl
       refine one_ (i := 5) (N := some 6) #[true, true, true, true, true, true, false, false] rfl rfl (one_of HT_.out (by kernel_rfl)) (by decide) (fun K hK => ?_)
       refine box_step ?hg (N := 6) ?hd (cs := #[.int .u32 0, .int .i64 0, .slice none 0 0, .slice none 0 0, .int .u32 0, .int .u32 0, .int .i64 0, .int .u32 0]) (t := 30) ?hr ?_; (case hd => rfl); (case hg => rfl); (case hr => first | (go_simp; done) | (go_simp; rfl))
       intro gb27 hg w30 hbox hb
       have BK27 := Aside0.mk (hbox)
       have GW27 := gwS hg HB
       have GE27 := gwS hg HB
       have NB1_27 := nbL hg BK1
       have NB27_1 := nbG hg BK1
       have NB2_27 := nbL hg BK2
       have NB27_2 := nbG hg BK2
       have NB26_27 := nbL hg BK26
       have NB27_26 := nbG hg BK26
       replace HO10 := Aside0.mk (Kd.R_below (rW HO10) hb)
       replace HO13 := Aside0.mk (Kd.S_below (by (with_reducible repeat (first | apply Kd.S_alloc | apply Kd.S_drewN | apply Kd.S_drew)); exact HO13.out) hb)
       replace HO18 := Aside0.mk (Kd.R_below (rW HO18) hb)
       replace HO21 := Aside0.mk (Kd.R_below (rW HO21) hb)
       replace BK1 := bkB BK1 hb
       replace BK2 := bkB BK2 hb
       replace BK26 := bkB BK26 hb
       replace HB := hbS HB hb
       clear hb hbox hg
       refine hK.out _ _ (bk4 BK1 (bl8 BK2)) (fun hHeld => ?_)
       clear hK K
       refine norm_ (a' := ?_) ?_ ?_
       rotate_left
       ·
        show Act.put _ (some 6) _ = _
        simp only [Act.put, List.setIfInBounds_toArray, List.set_cons_zero, List.set_cons_succ, i64_w, i32_w, IntKind.wrap_u32]
        rfl
       exact norm_ (by first | (simp only [putAll, Act.put, List.setIfInBounds_toArray, List.set_cons_zero, List.set_cons_succ]; done) | (simp only [putAll, Act.put, List.setIfInBounds_toArray, List.set_cons_zero, List.set_cons_succ]; rfl)) (hJ1_3_4_5 (v9, v12, v17, v20, gb26, gb27) _ ⟨hHeld, (rW HO10), (by (with_reducible repeat (first | apply Kd.S_alloc | apply Kd.S_drewN | apply Kd.S_drew)); exact HO13.out), (rW HO18), (rW HO21), (bkW BK1), (bkW BK2), (bkW BK26), (bkW BK27), GW26.out, GE26.out, NB1_26.out, NB26_1.out, NB2_26.out, NB26_2.out, NB27_26.out, NB26_27.out, GW27.out, GE27.out, NB1_27.out, NB27_1.out, NB2_27.out, NB27_2.out, (hbW HB)⟩)
     rintro ⟨v9, v12, v17, v20, gb26, gb27⟩ w30 ⟨hS_, h0_, h1_, h2_, h3_, h4_, h5_, h6_, h7_, h8_, h9_, h10_, h11_, h12_, h13_, h14_, h15_, h16_, h17_, h18_, h19_, h20_, h21_, h22_⟩
     have n0_ : Aside0 (Kd.R (Kd.int .u32) 22 w30 w.heap.size (fun k_ => some k_ ≠ (v17 : Value).ownBlock ∧ some k_ ≠ (v20 : Value).ownBlock) v9 t8) := ⟨h0_⟩
     have n1_ : Aside0 (Kd.S k53 53 w30 w.heap.size (fun _ => True) v12 t11) := ⟨h1_⟩
     have n2_ : Aside0 (Kd.R (Kd.int .u32) 22 w30 w.heap.size (fun k_ => some k_ ≠ (v9 : Value).ownBlock ∧ some k_ ≠ (v20 : Value).ownBlock) v17 t16) := ⟨h2_⟩
     have n3_ : Aside0 (Kd.R (Kd.int .u32) 22 w30 w.heap.size (fun k_ => some k_ ≠ (v9 : Value).ownBlock ∧ some k_ ≠ (v17 : Value).ownBlock) v20 t19) := ⟨h3_⟩
     have n4_ : Aside0 (w30.heap[gb1]? = some (.cells #[.int .i64 a0_0, .int .u32 a0_1, .slice A0_2 l0_2.length c0_2, .slice A0_3 l0_3.length c0_3] 26 (0, 0))) := ⟨h4_⟩
     have n5_ : Aside0 (w30.heap[gb2]? = some (.cells #[.int .u32 a1_0, .int .i64 a1_1, .slice A1_2 l1_2.length c1_2, .slice A1_3 l1_3.length c1_3, .int .u32 a1_4, .int .u32 a1_5, .int .i64 a1_6, .int .u32 a1_7] 30 (0, 0))) := ⟨h5_⟩
     have n6_ : Aside0 (w30.heap[gb26]? = some (.cells #[.int .i64 0, .int .u32 0, .slice none 0 0, .slice none 0 0] 26 (0, 0))) := ⟨h6_⟩
     have n7_ : Aside0 (w30.heap[gb27]? = some (.cells #[.int .u32 0, .int .i64 0, .slice none 0 0, .slice none 0 0, .int .u32 0, .int .u32 0, .int .i64 0, .int .u32 0] 30 (0, 0))) := ⟨h7_⟩
     have n8_ : Aside0 (w.heap.size ≤ gb26) := ⟨h8_⟩
     have n9_ : Aside0 (w.heap.size ≤ gb26) := ⟨h9_⟩
     have n10_ : Aside0 (gb1 ≠ gb26) := ⟨h10_⟩
     have n11_ : Aside0 (gb26 ≠ gb1) := ⟨h11_⟩
     have n12_ : Aside0 (gb2 ≠ gb26) := ⟨h12_⟩
     have n13_ : Aside0 (gb26 ≠ gb2) := ⟨h13_⟩
     have n14_ : Aside0 (gb27 ≠ gb26) := ⟨h14_⟩
     have n15_ : Aside0 (gb26 ≠ gb27) := ⟨h15_⟩
     have n16_ : Aside0 (w.heap.size ≤ gb27) := ⟨h16_⟩
     have n17_ : Aside0 (w.heap.size ≤ gb27) := ⟨h17_⟩
     have n18_ : Aside0 (gb1 ≠ gb27) := ⟨h18_⟩
     have n19_ : Aside0 (gb27 ≠ gb1) := ⟨h19_⟩
     have n20_ : Aside0 (gb2 ≠ gb27) := ⟨h20_⟩
     have n21_ : Aside0 (gb27 ≠ gb2) := ⟨h21_⟩
     have n22_ : Aside0 (Below w.heap.size w w30) := ⟨h22_⟩
     clear BK1 BK2 HB h0_ h1_ h2_ h3_ h4_ h5_ h6_ h7_ h8_ h9_ h10_ h11_ h12_ h13_ h14_ h15_ h16_ h17_ h18_ h19_ h20_ h21_ h22_
     have HO10 := n0_
     have HO13 := n1_
     have HO18 := n2_
     have HO21 := n3_
     have BK1 := n4_
     have BK2 := n5_
     have BK26 := n6_
     have BK27 := n7_
     have GW26 := n8_
     have GE26 := n9_
     have NB1_26 := n10_
     have NB26_1 := n11_
     have NB2_26 := n12_
     have NB26_2 := n13_
     have NB27_26 := n14_
     have NB26_27 := n15_
     have GW27 := n16_
     have GE27 := n17_
     have NB1_27 := n18_
     have NB27_1 := n19_
     have NB2_27 := n20_
     have NB27_2 := n21_
     have HB := n22_
     clear n0_ n1_ n2_ n3_ n4_ n5_ n6_ n7_ n8_ n9_ n10_ n11_ n12_ n13_ n14_ n15_ n16_ n17_ n18_ n19_ n20_ n21_ n22_
     have hHeld : w30.cell? ⟨gb1, 0, none⟩ = some (.int .i64 a0_0) ∧ w30.cell? ⟨gb1, 1, none⟩ = some (.int .u32 a0_1) ∧ w30.cell? ⟨gb1, 2, none⟩ = some (.slice A0_2 l0_2.length c0_2) ∧ w30.cell? ⟨gb1, 3, none⟩ = some (.slice A0_3 l0_3.length c0_3) ∧ w30.cell? ⟨gb2, 0, none⟩ = some (.int .u32 a1_0) ∧ w30.cell? ⟨gb2, 1, none⟩ = some (.int .i64 a1_1) ∧ w30.cell? ⟨gb2, 2, none⟩ = some (.slice A1_2 l1_2.length c1_2) ∧ w30.cell? ⟨gb2, 3, none⟩ = some (.slice A1_3 l1_3.length c1_3) ∧ w30.cell? ⟨gb2, 4, none⟩ = some (.int .u32 a1_4) ∧ w30.cell? ⟨gb2, 5, none⟩ = some (.int .u32 a1_5) ∧ w30.cell? ⟨gb2, 6, none⟩ = some (.int .i64 a1_6) ∧ w30.cell? ⟨gb2, 7, none⟩ = some (.int .u32 a1_7) := hS_
     obtain ⟨Ao33, co33, eo33⟩ := Kd.R_slice HO10.out
     (first | subst eo33 | (injection eo33 with f1_ f2_ f3_; have f4_ := f1_.symm; have f5_ := f3_.symm; clear f1_ f2_ f3_; subst f4_; subst f5_))
     obtain ⟨Ao35, co35, eo35⟩ := Kd.S_slice HO13.out
     (first | subst eo35 | (injection eo35 with f1_ f2_ f3_; have f4_ := f1_.symm; have f5_ := f3_.symm; clear f1_ f2_ f3_; subst f4_; subst f5_))
     obtain ⟨Ao39, co39, eo39⟩ := Kd.R_slice HO18.out
     (first | subst eo39 | (injection eo39 with f1_ f2_ f3_; have f4_ := f1_.symm; have f5_ := f3_.symm; clear f1_ f2_ f3_; subst f4_; subst f5_))
     obtain ⟨Ao41, co41, eo41⟩ := Kd.R_slice HO21.out
     (first | subst eo41 | (injection eo41 with f1_ f2_ f3_; have f4_ := f1_.symm; have f5_ := f3_.symm; clear f1_ f2_ f3_; subst f4_; subst f5_))
     refine norm_ (a' := ?_) ?_ ?_
     rotate_left
     ·
      simp only [putAll, Act.put, List.setIfInBounds_toArray, List.set_cons_zero, List.set_cons_succ]
      rfl
     refine one_ (i := 6) (N := none) #[true, true, true, true, true, true, true, false] rfl rfl (one_of HT_.out (by kernel_rfl)) (by decide) (fun K hK => ?_)
     have hs31 : w30.cell? ⟨gb26, 0, none⟩ = some (.int .i64 0) := (blk_cell BK26.out 0).trans rfl
     have hfs31 := blk_frozen BK26.out 0
     have hns31_0 := NB1_26.out
     have hns31_1 := NB2_26.out
     have hns31_3 := NB27_26.out
     have hms31_0 := NB26_1.out
     have hms31_1 := NB26_2.out
     have hms31_3 := NB26_27.out
     have hs32 : w30.cell? ⟨gb26, 1, none⟩ = some (.int .u32 0) := (blk_cell BK26.out 1).trans rfl
     have hfs32 := blk_frozen BK26.out 1
     have hns32_0 := NB1_26.out
     have hns32_1 := NB2_26.out
     have hns32_3 := NB27_26.out
     have hms32_0 := NB26_1.out
     have hms32_1 := NB26_2.out
     have hms32_3 := NB26_27.out
     have hs34 : w30.cell? ⟨gb26, 2, none⟩ = some (.slice none 0 0) := (blk_cell BK26.out 2).trans rfl
     have hfs34 := blk_frozen BK26.out 2
     have hns34_0 := NB1_26.out
     have hns34_1 := NB2_26.out
     have hns34_3 := NB27_26.out
     have hms34_0 := NB26_1.out
     have hms34_1 := NB26_2.out
     have hms34_3 := NB26_27.out
     have hs36 : w30.cell? ⟨gb26, 3, none⟩ = some (.slice none 0 0) := (blk_cell BK26.out 3).trans rfl
     have hfs36 := blk_frozen BK26.out 3
     have hns36_0 := NB1_26.out
     have hns36_1 := NB2_26.out
     have hns36_3 := NB27_26.out
     have hms36_0 := NB26_1.out
     have hms36_1 := NB26_2.out
     have hms36_3 := NB26_27.out
     refine skip_ (w1 := ?_) (by rfl) rfl ?_ ?_
     rotate_left
     ·
      go_simp
      rfl
     refine hK.out _ _ ⟨((cell_far (p := ⟨gb26, _, none⟩) NB1_26.out _).trans (((cell_far (p := ⟨gb26, _, none⟩) NB1_26.out _).trans (((cell_far (p := ⟨gb26, _, none⟩) NB1_26.out _).trans (((cell_far (p := ⟨gb26, _, none⟩) NB1_26.out _).trans (hHeld.1)))))))), ((cell_far (p := ⟨gb26, _, none⟩) NB1_26.out _).trans (((cell_far (p := ⟨gb26, _, none⟩) NB1_26.out _).trans (((cell_far (p := ⟨gb26, _, none⟩) NB1_26.out _).trans (((cell_far (p := ⟨gb26, _, none⟩) NB1_26.out _).trans (hHeld.2.1)))))))), ((cell_far (p := ⟨gb26, _, none⟩) NB1_26.out _).trans (((cell_far (p := ⟨gb26, _, none⟩) NB1_26.out _).trans (((cell_far (p := ⟨gb26, _, none⟩) NB1_26.out _).trans (((cell_far (p := ⟨gb26, _, none⟩) NB1_26.out _).trans (hHeld.2.2.1)))))))), ((cell_far (p := ⟨gb26, _, none⟩) NB1_26.out _).trans (((cell_far (p := ⟨gb26, _, none⟩) NB1_26.out _).trans (((cell_far (p := ⟨gb26, _, none⟩) NB1_26.out _).trans (((cell_far (p := ⟨gb26, _, none⟩) NB1_26.out _).trans (hHeld.2.2.2.1)))))))), ((cell_far (p := ⟨gb26, _, none⟩) NB2_26.out _).trans (((cell_far (p := ⟨gb26, _, none⟩) NB2_26.out _).trans (((cell_far (p := ⟨gb26, _, none⟩) NB2_26.out _).trans (((cell_far (p := ⟨gb26, _, none⟩) NB2_26.out _).trans (hHeld.2.2.2.2.1)))))))), ((cell_far (p := ⟨gb26, _, none⟩) NB2_26.out _).trans (((cell_far (p := ⟨gb26, _, none⟩) NB2_26.out _).trans (((cell_far (p := ⟨gb26, _, none⟩) NB2_26.out _).trans (((cell_far (p := ⟨gb26, _, none⟩) NB2_26.out _).trans (hHeld.2.2.2.2.2.1)))))))), ((cell_far (p := ⟨gb26, _, none⟩) NB2_26.out _).trans (((cell_far (p := ⟨gb26, _, none⟩) NB2_26.out _).trans (((cell_far (p := ⟨gb26, _, none⟩) NB2_26.out _).trans (((cell_far (p := ⟨gb26, _, none⟩) NB2_26.out _).trans (hHeld.2.2.2.2.2.2.1)))))))), ((cell_far (p := ⟨gb26, _, none⟩) NB2_26.out _).trans (((cell_far (p := ⟨gb26, _, none⟩) NB2_26.out _).trans (((cell_far (p := ⟨gb26, _, none⟩) NB2_26.out _).trans (((cell_far (p := ⟨gb26, _, none⟩) NB2_26.out _).trans (hHeld.2.2.2.2.2.2.2.1)))))))), ((cell_far (p := ⟨gb26, _, none⟩) NB2_26.out _).trans (((cell_far (p := ⟨gb26, _, none⟩) NB2_26.out _).trans (((cell_far (p := ⟨gb26, _, none⟩) NB2_26.out _).trans (((cell_far (p := ⟨gb26, _, none⟩) NB2_26.out _).trans (hHeld.2.2.2.2.2.2.2.2.1)))))))), ((cell_far (p := ⟨gb26, _, none⟩) NB2_26.out _).trans (((cell_far (p := ⟨gb26, _, none⟩) NB2_26.out _).trans (((cell_far (p := ⟨gb26, _, none⟩) NB2_26.out _).trans (((cell_far (p := ⟨gb26, _, none⟩) NB2_26.out _).trans (hHeld.2.2.2.2.2.2.2.2.2.1)))))))), ((cell_far (p := ⟨gb26, _, none⟩) NB2_26.out _).trans (((cell_far (p := ⟨gb26, _, none⟩) NB2_26.out _).trans (((cell_far (p := ⟨gb26, _, none⟩) NB2_26.out _).trans (((cell_far (p := ⟨gb26, _, none⟩) NB2_26.out _).trans (hHeld.2.2.2.2.2.2.2.2.2.2.1)))))))), ((cell_far (p := ⟨gb26, _, none⟩) NB2_26.out _).trans (((cell_far (p := ⟨gb26, _, none⟩) NB2_26.out _).trans (((cell_far (p := ⟨gb26, _, none⟩) NB2_26.out _).trans (((cell_far (p := ⟨gb26, _, none⟩) NB2_26.out _).trans (hHeld.2.2.2.2.2.2.2.2.2.2.2))))))))⟩ (fun hHeld => ?_)
     clear hK K
     refine one_ (i := 7) (N := none) #[true, true, true, true, true, true, true, true] rfl rfl (one_of HT_.out (by kernel_rfl)) (by decide) (fun K hK => ?_)
     have hs37 : w30.cell? ⟨gb27, 0, none⟩ = some (.int .u32 0) := (blk_cell BK27.out 0).trans rfl
     have hfs37 := blk_frozen BK27.out 0
     have hns37_0 := NB1_27.out
     have hns37_1 := NB2_27.out
     have hns37_2 := NB26_27.out
     have hms37_0 := NB27_1.out
     have hms37_1 := NB27_2.out
     have hms37_2 := NB27_26.out
     have hs38 : w30.cell? ⟨gb27, 1, none⟩ = some (.int .i64 0) := (blk_cell BK27.out 1).trans rfl
     have hfs38 := blk_frozen BK27.out 1
     have hns38_0 := NB1_27.out
     have hns38_1 := NB2_27.out
     have hns38_2 := NB26_27.out
     have hms38_0 := NB27_1.out
     have hms38_1 := NB27_2.out
     have hms38_2 := NB27_26.out
     have hs40 : w30.cell? ⟨gb27, 2, none⟩ = some (.slice none 0 0) := (blk_cell BK27.out 2).trans rfl
     have hfs40 := blk_frozen BK27.out 2
     have hns40_0 := NB1_27.out
     have hns40_1 := NB2_27.out
     have hns40_2 := NB26_27.out
     have hms40_0 := NB27_1.out
     have hms40_1 := NB27_2.out
     have hms40_2 := NB27_26.out
     have hs42 : w30.cell? ⟨gb27, 3, none⟩ = some (.slice none 0 0) := (blk_cell BK27.out 3).trans rfl
     have hfs42 := blk_frozen BK27.out 3
     have hns42_0 := NB1_27.out
     have hns42_1 := NB2_27.out
     have hns42_2 := NB26_27.out
     have hms42_0 := NB27_1.out
     have hms42_1 := NB27_2.out
     have hms42_2 := NB27_26.out
     have hs43 : w30.cell? ⟨gb27, 4, none⟩ = some (.int .u32 0) := (blk_cell BK27.out 4).trans rfl
     have hfs43 := blk_frozen BK27.out 4
     have hns43_0 := NB1_27.out
     have hns43_1 := NB2_27.out
     have hns43_2 := NB26_27.out
     have hms43_0 := NB27_1.out
     have hms43_1 := NB27_2.out
     have hms43_2 := NB27_26.out
     have hs44 : w30.cell? ⟨gb27, 5, none⟩ = some (.int .u32 0) := (blk_cell BK27.out 5).trans rfl
     have hfs44 := blk_frozen BK27.out 5
     have hns44_0 := NB1_27.out
     have hns44_1 := NB2_27.out
     have hns44_2 := NB26_27.out
     have hms44_0 := NB27_1.out
     have hms44_1 := NB27_2.out
     have hms44_2 := NB27_26.out
     have hs45 : w30.cell? ⟨gb27, 6, none⟩ = some (.int .i64 0) := (blk_cell BK27.out 6).trans rfl
     have hfs45 := blk_frozen BK27.out 6
     have hns45_0 := NB1_27.out
     have hns45_1 := NB2_27.out
     have hns45_2 := NB26_27.out
     have hms45_0 := NB27_1.out
     have hms45_1 := NB27_2.out
     have hms45_2 := NB27_26.out
     have hs46 : w30.cell? ⟨gb27, 7, none⟩ = some (.int .u32 0) := (blk_cell BK27.out 7).trans rfl
     have hfs46 := blk_frozen BK27.out 7
     have hns46_0 := NB1_27.out
     have hns46_1 := NB2_27.out
     have hns46_2 := NB26_27.out
     have hms46_0 := NB27_1.out
     have hms46_1 := NB27_2.out
     have hms46_2 := NB27_26.out
     refine skip_ (w1 := ?_) (by rfl) rfl ?_ ?_
     rotate_left
     ·
      go_simp
      rfl
     refine hK.out _ _ ⟨((cell_far (p := ⟨gb27, _, none⟩) NB1_27.out _).trans (((cell_far (p := ⟨gb27, _, none⟩) NB1_27.out _).trans (((cell_far (p := ⟨gb27, _, none⟩) NB1_27.out _).trans (((cell_far (p := ⟨gb27, _, none⟩) NB1_27.out _).trans (((cell_far (p := ⟨gb27, _, none⟩) NB1_27.out _).trans (((cell_far (p := ⟨gb27, _, none⟩) NB1_27.out _).trans (((cell_far (p := ⟨gb27, _, none⟩) NB1_27.out _).trans (((cell_far (p := ⟨gb27, _, none⟩) NB1_27.out _).trans (hHeld.1)))))))))))))))), ((cell_far (p := ⟨gb27, _, none⟩) NB1_27.out _).trans (((cell_far (p := ⟨gb27, _, none⟩) NB1_27.out _).trans (((cell_far (p := ⟨gb27, _, none⟩) NB1_27.out _).trans (((cell_far (p := ⟨gb27, _, none⟩) NB1_27.out _).trans (((cell_far (p := ⟨gb27, _, none⟩) NB1_27.out _).trans (((cell_far (p := ⟨gb27, _, none⟩) NB1_27.out _).trans (((cell_far (p := ⟨gb27, _, none⟩) NB1_27.out _).trans (((cell_far (p := ⟨gb27, _, none⟩) NB1_27.out _).trans (hHeld.2.1)))))))))))))))), ((cell_far (p := ⟨gb27, _, none⟩) NB1_27.out _).trans (((cell_far (p := ⟨gb27, _, none⟩) NB1_27.out _).trans (((cell_far (p := ⟨gb27, _, none⟩) NB1_27.out _).trans (((cell_far (p := ⟨gb27, _, none⟩) NB1_27.out _).trans (((cell_far (p := ⟨gb27, _, none⟩) NB1_27.out _).trans (((cell_far (p := ⟨gb27, _, none⟩) NB1_27.out _).trans (((cell_far (p := ⟨gb27, _, none⟩) NB1_27.out _).trans (((cell_far (p := ⟨gb27, _, none⟩) NB1_27.out _).trans (hHeld.2.2.1)))))))))))))))), ((cell_far (p := ⟨gb27, _, none⟩) NB1_27.out _).trans (((cell_far (p := ⟨gb27, _, none⟩) NB1_27.out _).trans (((cell_far (p := ⟨gb27, _, none⟩) NB1_27.out _).trans (((cell_far (p := ⟨gb27, _, none⟩) NB1_27.out _).trans (((cell_far (p := ⟨gb27, _, none⟩) NB1_27.out _).trans (((cell_far (p := ⟨gb27, _, none⟩) NB1_27.out _).trans (((cell_far (p := ⟨gb27, _, none⟩) NB1_27.out _).trans (((cell_far (p := ⟨gb27, _, none⟩) NB1_27.out _).trans (hHeld.2.2.2.1)))))))))))))))), ((cell_far (p := ⟨gb27, _, none⟩) NB2_27.out _).trans (((cell_far (p := ⟨gb27, _, none⟩) NB2_27.out _).trans (((cell_far (p := ⟨gb27, _, none⟩) NB2_27.out _).trans (((cell_far (p := ⟨gb27, _, none⟩) NB2_27.out _).trans (((cell_far (p := ⟨gb27, _, none⟩) NB2_27.out _).trans (((cell_far (p := ⟨gb27, _, none⟩) NB2_27.out _).trans (((cell_far (p := ⟨gb27, _, none⟩) NB2_27.out _).trans (((cell_far (p := ⟨gb27, _, none⟩) NB2_27.out _).trans (hHeld.2.2.2.2.1)))))))))))))))), ((cell_far (p := ⟨gb27, _, none⟩) NB2_27.out _).trans (((cell_far (p := ⟨gb27, _, none⟩) NB2_27.out _).trans (((cell_far (p := ⟨gb27, _, none⟩) NB2_27.out _).trans (((cell_far (p := ⟨gb27, _, none⟩) NB2_27.out _).trans (((cell_far (p := ⟨gb27, _, none⟩) NB2_27.out _).trans (((cell_far (p := ⟨gb27, _, none⟩) NB2_27.out _).trans (((cell_far (p := ⟨gb27, _, none⟩) NB2_27.out _).trans (((cell_far (p := ⟨gb27, _, none⟩) NB2_27.out _).trans (hHeld.2.2.2.2.2.1)))))))))))))))), ((cell_far (p := ⟨gb27, _, none⟩) NB2_27.out _).trans (((cell_far (p := ⟨gb27, _, none⟩) NB2_27.out _).trans (((cell_far (p := ⟨gb27, _, none⟩) NB2_27.out _).trans (((cell_far (p := ⟨gb27, _, none⟩) NB2_27.out _).trans (((cell_far (p := ⟨gb27, _, none⟩) NB2_27.out _).trans (((cell_far (p := ⟨gb27, _, none⟩) NB2_27.out _).trans (((cell_far (p := ⟨gb27, _, none⟩) NB2_27.out _).trans (((cell_far (p := ⟨gb27, _, none⟩) NB2_27.out _).trans (hHeld.2.2.2.2.2.2.1)))))))))))))))), ((cell_far (p := ⟨gb27, _, none⟩) NB2_27.out _).trans (((cell_far (p := ⟨gb27, _, none⟩) NB2_27.out _).trans (((cell_far (p := ⟨gb27, _, none⟩) NB2_27.out _).trans (((cell_far (p := ⟨gb27, _, none⟩) NB2_27.out _).trans (((cell_far (p := ⟨gb27, _, none⟩) NB2_27.out _).trans (((cell_far (p := ⟨gb27, _, none⟩) NB2_27.out _).trans (((cell_far (p := ⟨gb27, _, none⟩) NB2_27.out _).trans (((cell_far (p := ⟨gb27, _, none⟩) NB2_27.out _).trans (hHeld.2.2.2.2.2.2.2.1)))))))))))))))), ((cell_far (p := ⟨gb27, _, none⟩) NB2_27.out _).trans (((cell_far (p := ⟨gb27, _, none⟩) NB2_27.out _).trans (((cell_far (p := ⟨gb27, _, none⟩) NB2_27.out _).trans (((cell_far (p := ⟨gb27, _, none⟩) NB2_27.out _).trans (((cell_far (p := ⟨gb27, _, none⟩) NB2_27.out _).trans (((cell_far (p := ⟨gb27, _, none⟩) NB2_27.out _).trans (((cell_far (p := ⟨gb27, _, none⟩) NB2_27.out _).trans (((cell_far (p := ⟨gb27, _, none⟩) NB2_27.out _).trans (hHeld.2.2.2.2.2.2.2.2.1)))))))))))))))), ((cell_far (p := ⟨gb27, _, none⟩) NB2_27.out _).trans (((cell_far (p := ⟨gb27, _, none⟩) NB2_27.out _).trans (((cell_far (p := ⟨gb27, _, none⟩) NB2_27.out _).trans (((cell_far (p := ⟨gb27, _, none⟩) NB2_27.out _).trans (((cell_far (p := ⟨gb27, _, none⟩) NB2_27.out _).trans (((cell_far (p := ⟨gb27, _, none⟩) NB2_27.out _).trans (((cell_far (p := ⟨gb27, _, none⟩) NB2_27.out _).trans (((cell_far (p := ⟨gb27, _, none⟩) NB2_27.out _).trans (hHeld.2.2.2.2.2.2.2.2.2.1)))))))))))))))), ((cell_far (p := ⟨gb27, _, none⟩) NB2_27.out _).trans (((cell_far (p := ⟨gb27, _, none⟩) NB2_27.out _).trans (((cell_far (p := ⟨gb27, _, none⟩) NB2_27.out _).trans (((cell_far (p := ⟨gb27, _, none⟩) NB2_27.out _).trans (((cell_far (p := ⟨gb27, _, none⟩) NB2_27.out _).trans (((cell_far (p := ⟨gb27, _, none⟩) NB2_27.out _).trans (((cell_far (p := ⟨gb27, _, none⟩) NB2_27.out _).trans (((cell_far (p := ⟨gb27, _, none⟩) NB2_27.out _).trans (hHeld.2.2.2.2.2.2.2.2.2.2.1)))))))))))))))), ((cell_far (p := ⟨gb27, _, none⟩) NB2_27.out _).trans (((cell_far (p := ⟨gb27, _, none⟩) NB2_27.out _).trans (((cell_far (p := ⟨gb27, _, none⟩) NB2_27.out _).trans (((cell_far (p := ⟨gb27, _, none⟩) NB2_27.out _).trans (((cell_far (p := ⟨gb27, _, none⟩) NB2_27.out _).trans (((cell_far (p := ⟨gb27, _, none⟩) NB2_27.out _).trans (((cell_far (p := ⟨gb27, _, none⟩) NB2_27.out _).trans (((cell_far (p := ⟨gb27, _, none⟩) NB2_27.out _).trans (hHeld.2.2.2.2.2.2.2.2.2.2.2))))))))))))))))⟩ (fun hHeld => ?_)
     clear hK K
     refine done_ (done_of HT_.out (by kernel_rfl)) ?_
     have n0_ : Aside0 (Kd.R (Kd.int .u32) 22 ((((((((((((w30.setCell ⟨gb26, 0, none⟩ (.int .i64 t6)).setCell ⟨gb26, 1, none⟩ (.int .u32 t7)).setCell ⟨gb26, 2, none⟩ (.slice Ao33 t8.length co33)).setCell ⟨gb26, 3, none⟩ (.slice Ao35 t11.length co35)).setCell ⟨gb27, 0, none⟩ (.int .u32 t14)).setCell ⟨gb27, 1, none⟩ (.int .i64 t15)).setCell ⟨gb27, 2, none⟩ (.slice Ao39 t16.length co39)).setCell ⟨gb27, 3, none⟩ (.slice Ao41 t19.length co41)).setCell ⟨gb27, 4, none⟩ (.int .u32 t22)).setCell ⟨gb27, 5, none⟩ (.int .u32 t23)).setCell ⟨gb27, 6, none⟩ (.int .i64 t24)).setCell ⟨gb27, 7, none⟩ (.int .u32 t25)) w.heap.size (fun k_ => some k_ ≠ (.slice Ao39 t16.length co39 : Value).ownBlock ∧ some k_ ≠ (.slice Ao41 t19.length co41 : Value).ownBlock) (.slice Ao33 t8.length co33) t8) := ⟨moR (rW HO10)⟩
     have n1_ : Aside0 (Kd.S k53 53 ((((((((((((w30.setCell ⟨gb26, 0, none⟩ (.int .i64 t6)).setCell ⟨gb26, 1, none⟩ (.int .u32 t7)).setCell ⟨gb26, 2, none⟩ (.slice Ao33 t8.length co33)).setCell ⟨gb26, 3, none⟩ (.slice Ao35 t11.length co35)).setCell ⟨gb27, 0, none⟩ (.int .u32 t14)).setCell ⟨gb27, 1, none⟩ (.int .i64 t15)).setCell ⟨gb27, 2, none⟩ (.slice Ao39 t16.length co39)).setCell ⟨gb27, 3, none⟩ (.slice Ao41 t19.length co41)).setCell ⟨gb27, 4, none⟩ (.int .u32 t22)).setCell ⟨gb27, 5, none⟩ (.int .u32 t23)).setCell ⟨gb27, 6, none⟩ (.int .i64 t24)).setCell ⟨gb27, 7, none⟩ (.int .u32 t25)) w.heap.size (fun _ => True) (.slice Ao35 t11.length co35) t11) := ⟨by (with_reducible repeat (first | apply Kd.S_alloc | apply Kd.S_drewN | apply Kd.S_drew)); exact Kd.S_mono (Kd.S_far (p := ⟨gb27, 7, none⟩) (Kd.S_far (p := ⟨gb27, 6, none⟩) (Kd.S_far (p := ⟨gb27, 5, none⟩) (Kd.S_far (p := ⟨gb27, 4, none⟩) (Kd.S_far (p := ⟨gb27, 3, none⟩) (Kd.S_far (p := ⟨gb27, 2, none⟩) (Kd.S_far (p := ⟨gb27, 1, none⟩) (Kd.S_far (p := ⟨gb27, 0, none⟩) (Kd.S_far (p := ⟨gb26, 3, none⟩) (Kd.S_far (p := ⟨gb26, 2, none⟩) (Kd.S_far (p := ⟨gb26, 1, none⟩) (Kd.S_far (p := ⟨gb26, 0, none⟩) (Kd.S_types (Kd.S_types HO13.out BK26.out (by decide)) BK27.out (by decide)) (fun _ hk => hk.1.2) (.int .i64 t6)) (fun _ hk => hk.1.2) (.int .u32 t7)) (fun _ hk => hk.1.2) (.slice Ao33 t8.length co33)) (fun _ hk => hk.1.2) (.slice Ao35 t11.length co35)) (fun _ hk => hk.2) (.int .u32 t14)) (fun _ hk => hk.2) (.int .i64 t15)) (fun _ hk => hk.2) (.slice Ao39 t16.length co39)) (fun _ hk => hk.2) (.slice Ao41 t19.length co41)) (fun _ hk => hk.2) (.int .u32 t22)) (fun _ hk => hk.2) (.int .u32 t23)) (fun _ hk => hk.2) (.int .i64 t24)) (fun _ hk => hk.2) (.int .u32 t25)) (fun _ hk => trivial)⟩
     have n2_ : Aside0 (Kd.R (Kd.int .u32) 22 ((((((((((((w30.setCell ⟨gb26, 0, none⟩ (.int .i64 t6)).setCell ⟨gb26, 1, none⟩ (.int .u32 t7)).setCell ⟨gb26, 2, none⟩ (.slice Ao33 t8.length co33)).setCell ⟨gb26, 3, none⟩ (.slice Ao35 t11.length co35)).setCell ⟨gb27, 0, none⟩ (.int .u32 t14)).setCell ⟨gb27, 1, none⟩ (.int .i64 t15)).setCell ⟨gb27, 2, none⟩ (.slice Ao39 t16.length co39)).setCell ⟨gb27, 3, none⟩ (.slice Ao41 t19.length co41)).setCell ⟨gb27, 4, none⟩ (.int .u32 t22)).setCell ⟨gb27, 5, none⟩ (.int .u32 t23)).setCell ⟨gb27, 6, none⟩ (.int .i64 t24)).setCell ⟨gb27, 7, none⟩ (.int .u32 t25)) w.heap.size (fun k_ => some k_ ≠ (.slice Ao33 t8.length co33 : Value).ownBlock ∧ some k_ ≠ (.slice Ao41 t19.length co41 : Value).ownBlock) (.slice Ao39 t16.length co39) t16) := ⟨moR (rW HO18)⟩
     have n3_ : Aside0 (Kd.R (Kd.int .u32) 22 ((((((((((((w30.setCell ⟨gb26, 0, none⟩ (.int .i64 t6)).setCell ⟨gb26, 1, none⟩ (.int .u32 t7)).setCell ⟨gb26, 2, none⟩ (.slice Ao33 t8.length co33)).setCell ⟨gb26, 3, none⟩ (.slice Ao35 t11.length co35)).setCell ⟨gb27, 0, none⟩ (.int .u32 t14)).setCell ⟨gb27, 1, none⟩ (.int .i64 t15)).setCell ⟨gb27, 2, none⟩ (.slice Ao39 t16.length co39)).setCell ⟨gb27, 3, none⟩ (.slice Ao41 t19.length co41)).setCell ⟨gb27, 4, none⟩ (.int .u32 t22)).setCell ⟨gb27, 5, none⟩ (.int .u32 t23)).setCell ⟨gb27, 6, none⟩ (.int .i64 t24)).setCell ⟨gb27, 7, none⟩ (.int .u32 t25)) w.heap.size (fun k_ => some k_ ≠ (.slice Ao33 t8.length co33 : Value).ownBlock ∧ some k_ ≠ (.slice Ao39 t16.length co39 : Value).ownBlock) (.slice Ao41 t19.length co41) t19) := ⟨moR (rW HO21)⟩
     have n4_ : Aside0 (((((((((((((w30.setCell ⟨gb26, 0, none⟩ (.int .i64 t6)).setCell ⟨gb26, 1, none⟩ (.int .u32 t7)).setCell ⟨gb26, 2, none⟩ (.slice Ao33 t8.length co33)).setCell ⟨gb26, 3, none⟩ (.slice Ao35 t11.length co35)).setCell ⟨gb27, 0, none⟩ (.int .u32 t14)).setCell ⟨gb27, 1, none⟩ (.int .i64 t15)).setCell ⟨gb27, 2, none⟩ (.slice Ao39 t16.length co39)).setCell ⟨gb27, 3, none⟩ (.slice Ao41 t19.length co41)).setCell ⟨gb27, 4, none⟩ (.int .u32 t22)).setCell ⟨gb27, 5, none⟩ (.int .u32 t23)).setCell ⟨gb27, 6, none⟩ (.int .i64 t24)).setCell ⟨gb27, 7, none⟩ (.int .u32 t25)).heap[gb1]? = some (.cells #[.int .i64 a0_0, .int .u32 a0_1, .slice A0_2 l0_2.length c0_2, .slice A0_3 l0_3.length c0_3] 26 (0, 0))) := ⟨by (with_reducible repeat (first | refine blk_drewN ?_ _ | refine blk_drew ?_ | refine blk_alloc ?_ _)); refine blk_far ?_ NB1_27.out _; (with_reducible repeat (first | refine blk_drewN ?_ _ | refine blk_drew ?_ | refine blk_alloc ?_ _)); refine blk_far ?_ NB1_27.out _; (with_reducible repeat (first | refine blk_drewN ?_ _ | refine blk_drew ?_ | refine blk_alloc ?_ _)); refine blk_far ?_ NB1_27.out _; (with_reducible repeat (first | refine blk_drewN ?_ _ | refine blk_drew ?_ | refine blk_alloc ?_ _)); refine blk_far ?_ NB1_27.out _; (with_reducible repeat (first | refine blk_drewN ?_ _ | refine blk_drew ?_ | refine blk_alloc ?_ _)); refine blk_far ?_ NB1_27.out _; (with_reducible repeat (first | refine blk_drewN ?_ _ | refine blk_drew ?_ | refine blk_alloc ?_ _)); refine blk_far ?_ NB1_27.out _; (with_reducible repeat (first | refine blk_drewN ?_ _ | refine blk_drew ?_ | refine blk_alloc ?_ _)); refine blk_far ?_ NB1_27.out _; (with_reducible repeat (first | refine blk_drewN ?_ _ | refine blk_drew ?_ | refine blk_alloc ?_ _)); refine blk_far ?_ NB1_27.out _; (with_reducible repeat (first | refine blk_drewN ?_ _ | refine blk_drew ?_ | refine blk_alloc ?_ _)); refine blk_far ?_ NB1_26.out _; (with_reducible repeat (first | refine blk_drewN ?_ _ | refine blk_drew ?_ | refine blk_alloc ?_ _)); refine blk_far ?_ NB1_26.out _; (with_reducible repeat (first | refine blk_drewN ?_ _ | refine blk_drew ?_ | refine blk_alloc ?_ _)); refine blk_far ?_ NB1_26.out _; (with_reducible repeat (first | refine blk_drewN ?_ _ | refine blk_drew ?_ | refine blk_alloc ?_ _)); refine blk_far ?_ NB1_26.out _; (with_reducible repeat (first | refine blk_drewN ?_ _ | refine blk_drew ?_ | refine blk_alloc ?_ _)); exact BK1.out⟩
     have n5_ : Aside0 (((((((((((((w30.setCell ⟨gb26, 0, none⟩ (.int .i64 t6)).setCell ⟨gb26, 1, none⟩ (.int .u32 t7)).setCell ⟨gb26, 2, none⟩ (.slice Ao33 t8.length co33)).setCell ⟨gb26, 3, none⟩ (.slice Ao35 t11.length co35)).setCell ⟨gb27, 0, none⟩ (.int .u32 t14)).setCell ⟨gb27, 1, none⟩ (.int .i64 t15)).setCell ⟨gb27, 2, none⟩ (.slice Ao39 t16.length co39)).setCell ⟨gb27, 3, none⟩ (.slice Ao41 t19.length co41)).setCell ⟨gb27, 4, none⟩ (.int .u32 t22)).setCell ⟨gb27, 5, none⟩ (.int .u32 t23)).setCell ⟨gb27, 6, none⟩ (.int .i64 t24)).setCell ⟨gb27, 7, none⟩ (.int .u32 t25)).heap[gb2]? = some (.cells #[.int .u32 a1_0, .int .i64 a1_1, .slice A1_2 l1_2.length c1_2, .slice A1_3 l1_3.length c1_3, .int .u32 a1_4, .int .u32 a1_5, .int .i64 a1_6, .int .u32 a1_7] 30 (0, 0))) := ⟨by (with_reducible repeat (first | refine blk_drewN ?_ _ | refine blk_drew ?_ | refine blk_alloc ?_ _)); refine blk_far ?_ NB2_27.out _; (with_reducible repeat (first | refine blk_drewN ?_ _ | refine blk_drew ?_ | refine blk_alloc ?_ _)); refine blk_far ?_ NB2_27.out _; (with_reducible repeat (first | refine blk_drewN ?_ _ | refine blk_drew ?_ | refine blk_alloc ?_ _)); refine blk_far ?_ NB2_27.out _; (with_reducible repeat (first | refine blk_drewN ?_ _ | refine blk_drew ?_ | refine blk_alloc ?_ _)); refine blk_far ?_ NB2_27.out _; (with_reducible repeat (first | refine blk_drewN ?_ _ | refine blk_drew ?_ | refine blk_alloc ?_ _)); refine blk_far ?_ NB2_27.out _; (with_reducible repeat (first | refine blk_drewN ?_ _ | refine blk_drew ?_ | refine blk_alloc ?_ _)); refine blk_far ?_ NB2_27.out _; (with_reducible repeat (first | refine blk_drewN ?_ _ | refine blk_drew ?_ | refine blk_alloc ?_ _)); refine blk_far ?_ NB2_27.out _; (with_reducible repeat (first | refine blk_drewN ?_ _ | refine blk_drew ?_ | refine blk_alloc ?_ _)); refine blk_far ?_ NB2_27.out _; (with_reducible repeat (first | refine blk_drewN ?_ _ | refine blk_drew ?_ | refine blk_alloc ?_ _)); refine blk_far ?_ NB2_26.out _; (with_reducible repeat (first | refine blk_drewN ?_ _ | refine blk_drew ?_ | refine blk_alloc ?_ _)); refine blk_far ?_ NB2_26.out _; (with_reducible repeat (first | refine blk_drewN ?_ _ | refine blk_drew ?_ | refine blk_alloc ?_ _)); refine blk_far ?_ NB2_26.out _; (with_reducible repeat (first | refine blk_drewN ?_ _ | refine blk_drew ?_ | refine blk_alloc ?_ _)); refine blk_far ?_ NB2_26.out _; (with_reducible repeat (first | refine blk_drewN ?_ _ | refine blk_drew ?_ | refine blk_alloc ?_ _)); exact BK2.out⟩
     have n6_ : Aside0 (((((((((((((w30.setCell ⟨gb26, 0, none⟩ (.int .i64 t6)).setCell ⟨gb26, 1, none⟩ (.int .u32 t7)).setCell ⟨gb26, 2, none⟩ (.slice Ao33 t8.length co33)).setCell ⟨gb26, 3, none⟩ (.slice Ao35 t11.length co35)).setCell ⟨gb27, 0, none⟩ (.int .u32 t14)).setCell ⟨gb27, 1, none⟩ (.int .i64 t15)).setCell ⟨gb27, 2, none⟩ (.slice Ao39 t16.length co39)).setCell ⟨gb27, 3, none⟩ (.slice Ao41 t19.length co41)).setCell ⟨gb27, 4, none⟩ (.int .u32 t22)).setCell ⟨gb27, 5, none⟩ (.int .u32 t23)).setCell ⟨gb27, 6, none⟩ (.int .i64 t24)).setCell ⟨gb27, 7, none⟩ (.int .u32 t25)).heap[gb26]? = some (.cells #[.int .i64 t6, .int .u32 t7, .slice Ao33 t8.length co33, .slice Ao35 t11.length co35] 26 (0, 0))) := ⟨by (with_reducible repeat (first | refine blk_drewN ?_ _ | refine blk_drew ?_ | refine blk_alloc ?_ _)); refine blk_far ?_ NB26_27.out _; (with_reducible repeat (first | refine blk_drewN ?_ _ | refine blk_drew ?_ | refine blk_alloc ?_ _)); refine blk_far ?_ NB26_27.out _; (with_reducible repeat (first | refine blk_drewN ?_ _ | refine blk_drew ?_ | refine blk_alloc ?_ _)); refine blk_far ?_ NB26_27.out _; (with_reducible repeat (first | refine blk_drewN ?_ _ | refine blk_drew ?_ | refine blk_alloc ?_ _)); refine blk_far ?_ NB26_27.out _; (with_reducible repeat (first | refine blk_drewN ?_ _ | refine blk_drew ?_ | refine blk_alloc ?_ _)); refine blk_far ?_ NB26_27.out _; (with_reducible repeat (first | refine blk_drewN ?_ _ | refine blk_drew ?_ | refine blk_alloc ?_ _)); refine blk_far ?_ NB26_27.out _; (with_reducible repeat (first | refine blk_drewN ?_ _ | refine blk_drew ?_ | refine blk_alloc ?_ _)); refine blk_far ?_ NB26_27.out _; (with_reducible repeat (first | refine blk_drewN ?_ _ | refine blk_drew ?_ | refine blk_alloc ?_ _)); refine blk_far ?_ NB26_27.out _; (with_reducible repeat (first | refine blk_drewN ?_ _ | refine blk_drew ?_ | refine blk_alloc ?_ _)); refine blk_put (cs := #[.int .i64 t6, .int .u32 t7, .slice Ao33 t8.length co33, .slice none 0 0]) ?_ 3 _ rfl; (with_reducible repeat (first | refine blk_drewN ?_ _ | refine blk_drew ?_ | refine blk_alloc ?_ _)); refine blk_put (cs := #[.int .i64 t6, .int .u32 t7, .slice none 0 0, .slice none 0 0]) ?_ 2 _ rfl; (with_reducible repeat (first | refine blk_drewN ?_ _ | refine blk_drew ?_ | refine blk_alloc ?_ _)); refine blk_put (cs := #[.int .i64 t6, .int .u32 0, .slice none 0 0, .slice none 0 0]) ?_ 1 _ rfl; (with_reducible repeat (first | refine blk_drewN ?_ _ | refine blk_drew ?_ | refine blk_alloc ?_ _)); refine blk_put (cs := #[.int .i64 0, .int .u32 0, .slice none 0 0, .slice none 0 0]) ?_ 0 _ rfl; (with_reducible repeat (first | refine blk_drewN ?_ _ | refine blk_drew ?_ | refine blk_alloc ?_ _)); exact BK26.out⟩
     have n7_ : Aside0 (((((((((((((w30.setCell ⟨gb26, 0, none⟩ (.int .i64 t6)).setCell ⟨gb26, 1, none⟩ (.int .u32 t7)).setCell ⟨gb26, 2, none⟩ (.slice Ao33 t8.length co33)).setCell ⟨gb26, 3, none⟩ (.slice Ao35 t11.length co35)).setCell ⟨gb27, 0, none⟩ (.int .u32 t14)).setCell ⟨gb27, 1, none⟩ (.int .i64 t15)).setCell ⟨gb27, 2, none⟩ (.slice Ao39 t16.length co39)).setCell ⟨gb27, 3, none⟩ (.slice Ao41 t19.length co41)).setCell ⟨gb27, 4, none⟩ (.int .u32 t22)).setCell ⟨gb27, 5, none⟩ (.int .u32 t23)).setCell ⟨gb27, 6, none⟩ (.int .i64 t24)).setCell ⟨gb27, 7, none⟩ (.int .u32 t25)).heap[gb27]? = some (.cells #[.int .u32 t14, .int .i64 t15, .slice Ao39 t16.length co39, .slice Ao41 t19.length co41, .int .u32 t22, .int .u32 t23, .int .i64 t24, .int .u32 t25] 30 (0, 0))) := ⟨by (with_reducible repeat (first | refine blk_drewN ?_ _ | refine blk_drew ?_ | refine blk_alloc ?_ _)); refine blk_put (cs := #[.int .u32 t14, .int .i64 t15, .slice Ao39 t16.length co39, .slice Ao41 t19.length co41, .int .u32 t22, .int .u32 t23, .int .i64 t24, .int .u32 0]) ?_ 7 _ rfl; (with_reducible repeat (first | refine blk_drewN ?_ _ | refine blk_drew ?_ | refine blk_alloc ?_ _)); refine blk_put (cs := #[.int .u32 t14, .int .i64 t15, .slice Ao39 t16.length co39, .slice Ao41 t19.length co41, .int .u32 t22, .int .u32 t23, .int .i64 0, .int .u32 0]) ?_ 6 _ rfl; (with_reducible repeat (first | refine blk_drewN ?_ _ | refine blk_drew ?_ | refine blk_alloc ?_ _)); refine blk_put (cs := #[.int .u32 t14, .int .i64 t15, .slice Ao39 t16.length co39, .slice Ao41 t19.length co41, .int .u32 t22, .int .u32 0, .int .i64 0, .int .u32 0]) ?_ 5 _ rfl; (with_reducible repeat (first | refine blk_drewN ?_ _ | refine blk_drew ?_ | refine blk_alloc ?_ _)); refine blk_put (cs := #[.int .u32 t14, .int .i64 t15, .slice Ao39 t16.length co39, .slice Ao41 t19.length co41, .int .u32 0, .int .u32 0, .int .i64 0, .int .u32 0]) ?_ 4 _ rfl; (with_reducible repeat (first | refine blk_drewN ?_ _ | refine blk_drew ?_ | refine blk_alloc ?_ _)); refine blk_put (cs := #[.int .u32 t14, .int .i64 t15, .slice Ao39 t16.length co39, .slice none 0 0, .int .u32 0, .int .u32 0, .int .i64 0, .int .u32 0]) ?_ 3 _ rfl; (with_reducible repeat (first | refine blk_drewN ?_ _ | refine blk_drew ?_ | refine blk_alloc ?_ _)); refine blk_put (cs := #[.int .u32 t14, .int .i64 t15, .slice none 0 0, .slice none 0 0, .int .u32 0, .int .u32 0, .int .i64 0, .int .u32 0]) ?_ 2 _ rfl; (with_reducible repeat (first | refine blk_drewN ?_ _ | refine blk_drew ?_ | refine blk_alloc ?_ _)); refine blk_put (cs := #[.int .u32 t14, .int .i64 0, .slice none 0 0, .slice none 0 0, .int .u32 0, .int .u32 0, .int .i64 0, .int .u32 0]) ?_ 1 _ rfl; (with_reducible repeat (first | refine blk_drewN ?_ _ | refine blk_drew ?_ | refine blk_alloc ?_ _)); refine blk_put (cs := #[.int .u32 0, .int .i64 0, .slice none 0 0, .slice none 0 0, .int .u32 0, .int .u32 0, .int .i64 0, .int .u32 0]) ?_ 0 _ rfl; (with_reducible repeat (first | refine blk_drewN ?_ _ | refine blk_drew ?_ | refine blk_alloc ?_ _)); refine blk_far ?_ NB27_26.out _; (with_reducible repeat (first | refine blk_drewN ?_ _ | refine blk_drew ?_ | refine blk_alloc ?_ _)); refine blk_far ?_ NB27_26.out _; (with_reducible repeat (first | refine blk_drewN ?_ _ | refine blk_drew ?_ | refine blk_alloc ?_ _)); refine blk_far ?_ NB27_26.out _; (with_reducible repeat (first | refine blk_drewN ?_ _ | refine blk_drew ?_ | refine blk_alloc ?_ _)); refine blk_far ?_ NB27_26.out _; (with_reducible repeat (first | refine blk_drewN ?_ _ | refine blk_drew ?_ | refine blk_alloc ?_ _)); exact BK27.out⟩
     have n8_ : Aside0 (Below w.heap.size w ((((((((((((w30.setCell ⟨gb26, 0, none⟩ (.int .i64 t6)).setCell ⟨gb26, 1, none⟩ (.int .u32 t7)).setCell ⟨gb26, 2, none⟩ (.slice Ao33 t8.length co33)).setCell ⟨gb26, 3, none⟩ (.slice Ao35 t11.length co35)).setCell ⟨gb27, 0, none⟩ (.int .u32 t14)).setCell ⟨gb27, 1, none⟩ (.int .i64 t15)).setCell ⟨gb27, 2, none⟩ (.slice Ao39 t16.length co39)).setCell ⟨gb27, 3, none⟩ (.slice Ao41 t19.length co41)).setCell ⟨gb27, 4, none⟩ (.int .u32 t22)).setCell ⟨gb27, 5, none⟩ (.int .u32 t23)).setCell ⟨gb27, 6, none⟩ (.int .i64 t24)).setCell ⟨gb27, 7, none⟩ (.int .u32 t25))) := ⟨hbW HB⟩
     (try clear HO10)
     (try clear HO13)
     (try clear HO18)
     (try clear HO21)
     (try clear BK1)
     (try clear BK2)
     (try clear BK26)
     (try clear BK27)
     (try clear HB)
     generalize ((((((((((((w30.setCell ⟨gb26, 0, none⟩ (.int .i64 t6)).setCell ⟨gb26, 1, none⟩ (.int .u32 t7)).setCell ⟨gb26, 2, none⟩ (.slice Ao33 t8.length co33)).setCell ⟨gb26, 3, none⟩ (.slice Ao35 t11.length co35)).setCell ⟨gb27, 0, none⟩ (.int .u32 t14)).setCell ⟨gb27, 1, none⟩ (.int .i64 t15)).setCell ⟨gb27, 2, none⟩ (.slice Ao39 t16.length co39)).setCell ⟨gb27, 3, none⟩ (.slice Ao41 t19.length co41)).setCell ⟨gb27, 4, none⟩ (.int .u32 t22)).setCell ⟨gb27, 5, none⟩ (.int .u32 t23)).setCell ⟨gb27, 6, none⟩ (.int .i64 t24)).setCell ⟨gb27, 7, none⟩ (.int .u32 t25)) = w47 at n0_ n1_ n2_ n3_ n4_ n5_ n6_ n7_ n8_ ⊢
     have HO10 := n0_
     have HO13 := n1_
     have HO18 := n2_
     have HO21 := n3_
     have BK1 := n4_
     have BK2 := n5_
     have BK26 := n6_
     have BK27 := n7_
     have HB := n8_
     clear n0_ n1_ n2_ n3_ n4_ n5_ n6_ n7_ n8_
     have hnb48 := NB26_1.out
     have hnc48 := NB1_26.out
     have hnb49 := NB26_2.out
     have hnc49 := NB2_26.out
     have hnb50 := NB26_27.out
     have hnc50 := NB27_26.out
     obtain ⟨hcz51_0, hcz51_1, hcz51_2, hcz51_3, hfz51_0, hfz51_1, hfz51_2, hfz51_3⟩ := bc4 BK26
     have hnb52 := NB27_1.out
     have hnc52 := NB1_27.out
     have hnb53 := NB27_2.out
     have hnc53 := NB2_27.out
     obtain ⟨hcz54_0, hcz54_1, hcz54_2, hcz54_3, hcz54_4, hcz54_5, hcz54_6, hcz54_7, hfz54_0, hfz54_1, hfz54_2, hfz54_3, hfz54_4, hfz54_5, hfz54_6, hfz54_7⟩ := bc8 BK27
     go_upto_region 7 with (first | ((with_reducible refine gate_callee (f := 13) rfl ?_); refine goesL_ (some 25) rfl rfl Try.func13 (by kernel_rfl) rfl #[.agg #[.int .i64 t6, .int .u32 t7, .slice Ao33 t8.length co33, .slice Ao35 t11.length co35], .agg #[.int .u32 t14, .int .i64 t15, .slice Ao39 t16.length co39, .slice Ao41 t19.length co41, .int .u32 t22, .int .u32 t23, .int .i64 t24, .int .u32 t25]] rfl (by (try simp only [List.map_toArray, List.map_cons, List.map_nil]); first | done | rfl | (simp only [List.length_drop, List.length_take]; rfl)) ?_; (with_reducible refine (q11z.calls kj4 t6 t7 (fun k_ => some k_ = (.slice Ao33 t8.length co33 : Value).ownBlock) _ _ t8 _ _ t11 t14 t15 _ _ t16 _ _ t19 t22 t23 t24 t25 t28 t29 t30 t33 t36 t37 t38 t39 _ ?side1 ?side2 ?side3 ?side4 ?side5 ?side6 ?side7 A23.out).mono ?_); (case side1 => exact Kd.R_V (Kd.R_tight rfl (Kd.R_types (Kd.R_types (Kd.R_types (Kd.R_types (Kd.R_apart' (HO10.out) (Kd.S_typed HO13.out) (by decide)) BK1.out (by decide)) BK2.out (by decide)) BK26.out (by decide)) BK27.out (by decide)))); (case side2 => repeat (first | exact (Kd.S_reads' HO13.out).2.2 | (with_reducible refine Kd.C_alloc ?_ _) | (with_reducible refine Kd.C_drewN ?_ _) | (with_reducible refine Kd.C_drew ?_))); (case side3 => exact (Kd.S_reads' HO13.out).2.1); (case side4 => repeat (first | exact (Kd.R_reads' HO18.out).2.2 | (with_reducible refine Kd.C_alloc ?_ _) | (with_reducible refine Kd.C_drewN ?_ _) | (with_reducible refine Kd.C_drew ?_))); (case side5 => exact (Kd.R_reads' HO18.out).2.1); (case side6 => repeat (first | exact (Kd.R_reads' HO21.out).2.2 | (with_reducible refine Kd.C_alloc ?_ _) | (with_reducible refine Kd.C_drewN ?_ _) | (with_reducible refine Kd.C_drew ?_))); (case side7 => exact (Kd.R_reads' HO21.out).2.1); rintro e w55 ⟨v31, v34, rfl, ho0, ho1, hb⟩; refine ⟨_, rfl, ?_⟩; have HO32 := Aside0.mk (Kd.R_lower (Kd.R_new' (Kd.R_new' (Kd.R_new' (Kd.R_mono (ok' := fun k_ => some k_ ≠ (v34 : Value).ownBlock) ho0 (fun _ hk_ => hk_.2)) (Kd.R_lt (rW HO10))) (Kd.R_lt (rW HO18))) (Kd.R_lt (rW HO21))) (below_size (hbW HB))); have HO35 := Aside0.mk (Kd.R_lower (Kd.R_new' (Kd.R_new' (Kd.R_new' (Kd.R_mono (ok' := fun k_ => some k_ ≠ (v31 : Value).ownBlock) ho1 (fun _ hk_ => hk_.2)) (Kd.R_lt (rW HO10))) (Kd.R_lt (rW HO18))) (Kd.R_lt (rW HO21))) (below_size (hbW HB))); replace HO10 := Aside0.mk (Kd.R_mono (Kd.R_told (Kd.R_told (Kd.R_old (rW HO10) hb) (Kd.R_base ho0)) (Kd.R_base ho1)) (fun _ h_ => h_.1)); replace HO13 := Aside0.mk (Kd.S_below (by (with_reducible repeat (first | apply Kd.S_alloc | apply Kd.S_drewN | apply Kd.S_drew)); exact HO13.out) hb); replace HO18 := Aside0.mk (Kd.R_mono (Kd.R_told (Kd.R_told (Kd.R_old (rW HO18) hb) (Kd.R_base ho0)) (Kd.R_base ho1)) (fun _ h_ => h_.1)); replace HO21 := Aside0.mk (Kd.R_mono (Kd.R_told (Kd.R_told (Kd.R_old (rW HO21) hb) (Kd.R_base ho0)) (Kd.R_base ho1)) (fun _ h_ => h_.1)); replace BK1 := bkB BK1 hb; replace BK2 := bkB BK2 hb; replace BK26 := bkB BK26 hb; replace BK27 := bkB BK27 hb; replace HB := hbS HB hb; (try clear hb); (try clear ho0); (try clear ho1)) | ((with_reducible refine gate_dst (N := 7) rfl ?_); refine box_event ?hg (N := 7) ?hd (cs := #[.int .u32 0, .int .i64 0, .slice none 0 0, .slice none 0 0, .int .u32 0, .int .u32 0, .int .i64 0, .int .u32 0]) (t := 30) ?hr ?_; (case hd => rfl); (case hg => rfl); (case hr => first | (go_simp; done) | (go_simp; rfl)); intro gb40 hg w56 hbox hb; have BK40 := Aside0.mk (hbox); have GW40 := gwS hg HB; have GE40 := gwS hg HB; have NB1_40 := nbL hg BK1; have NB40_1 := nbG hg BK1; have NB2_40 := nbL hg BK2; have NB40_2 := nbG hg BK2; have NB26_40 := nbL hg BK26; have NB40_26 := nbG hg BK26; have NB27_40 := nbL hg BK27; have NB40_27 := nbG hg BK27; replace HO10 := Aside0.mk (Kd.R_below (rW HO10) hb); replace HO13 := Aside0.mk (Kd.S_below (by (with_reducible repeat (first | apply Kd.S_alloc | apply Kd.S_drewN | apply Kd.S_drew)); exact HO13.out) hb); replace HO18 := Aside0.mk (Kd.R_below (rW HO18) hb); replace HO21 := Aside0.mk (Kd.R_below (rW HO21) hb); replace HO32 := Aside0.mk (Kd.R_below (rW HO32) hb); replace HO35 := Aside0.mk (Kd.R_below (rW HO35) hb); replace BK1 := bkB BK1 hb; replace BK2 := bkB BK2 hb; replace BK26 := bkB BK26 hb; replace BK27 := bkB BK27 hb; replace HB := hbS HB hb; clear hb hbox hg; have hnb57 := NB40_1.out; have hnc57 := NB1_40.out; have hnb58 := NB40_2.out; have hnc58 := NB2_40.out; have hnb59 := NB40_26.out; have hnc59 := NB26_40.out; have hnb60 := NB40_27.out; have hnc60 := NB27_40.out; obtain ⟨hcz61_0, hcz61_1, hcz61_2, hcz61_3, hcz61_4, hcz61_5, hcz61_6, hcz61_7, hfz61_0, hfz61_1, hfz61_2, hfz61_3, hfz61_4, hfz61_5, hfz61_6, hfz61_7⟩ := bc8 BK40; obtain ⟨Ao62, co62, eo62⟩ := Kd.R_slice HO32.out; subst eo62; obtain ⟨Ao63, co63, eo63⟩ := Kd.R_slice HO35.out; subst eo63))
     (try simp only [Act.put, List.setIfInBounds_toArray, List.set_cons_zero, List.set_cons_succ])
     go_cut [38] (fun v38 wc => ∃ (kq : Nat) (x38_23 : Bool), v38 = .bool x38_23 ∧ Aside0 (q29z.j1 kq x38_23 a0_0 a0_1 l0_2 l0_3 a1_0 a1_1 l1_2 l1_3 a1_4 a1_5 a1_6 a1_7 t6 t7 t8 t11 t14 t15 t16 t19 t22 t23 t24 t25 = some r) ∧ Aside0 (kq ≤ kj4) ∧ Aside0 (Kd.R (Kd.int .u32) 22 wc w.heap.size (fun k_ => some k_ ≠ ((.slice Ao39 t16.length co39) : Value).ownBlock ∧ some k_ ≠ ((.slice Ao41 t19.length co41) : Value).ownBlock ∧ some k_ ≠ ((.slice Ao62 t30.length co62) : Value).ownBlock ∧ some k_ ≠ ((.slice Ao63 t33.length co63) : Value).ownBlock) (.slice Ao33 t8.length co33) t8) ∧ Aside0 (Kd.S k53 53 wc w.heap.size (fun _ => True) (.slice Ao35 t11.length co35) t11) ∧ Aside0 (Kd.R (Kd.int .u32) 22 wc w.heap.size (fun k_ => some k_ ≠ ((.slice Ao33 t8.length co33) : Value).ownBlock ∧ some k_ ≠ ((.slice Ao41 t19.length co41) : Value).ownBlock ∧ some k_ ≠ ((.slice Ao62 t30.length co62) : Value).ownBlock ∧ some k_ ≠ ((.slice Ao63 t33.length co63) : Value).ownBlock) (.slice Ao39 t16.length co39) t16) ∧ Aside0 (Kd.R (Kd.int .u32) 22 wc w.heap.size (fun k_ => some k_ ≠ ((.slice Ao33 t8.length co33) : Value).ownBlock ∧ some k_ ≠ ((.slice Ao39 t16.length co39) : Value).ownBlock ∧ some k_ ≠ ((.slice Ao62 t30.length co62) : Value).ownBlock ∧ some k_ ≠ ((.slice Ao63 t33.length co63) : Value).ownBlock) (.slice Ao41 t19.length co41) t19) ∧ Aside0 (Kd.R (Kd.int .u32) 22 wc w.heap.size (fun k_ => some k_ ≠ ((.slice Ao33 t8.length co33) : Value).ownBlock ∧ some k_ ≠ ((.slice Ao39 t16.length co39) : Value).ownBlock ∧ some k_ ≠ ((.slice Ao41 t19.length co41) : Value).ownBlock ∧ some k_ ≠ ((.slice Ao63 t33.length co63) : Value).ownBlock) (.slice Ao62 t30.length co62) t30) ∧ Aside0 (Kd.R (Kd.int .u32) 22 wc w.heap.size (fun k_ => some k_ ≠ ((.slice Ao33 t8.length co33) : Value).ownBlock ∧ some k_ ≠ ((.slice Ao39 t16.length co39) : Value).ownBlock ∧ some k_ ≠ ((.slice Ao41 t19.length co41) : Value).ownBlock ∧ some k_ ≠ ((.slice Ao62 t30.length co62) : Value).ownBlock) (.slice Ao63 t33.length co63) t33) ∧ Aside0 (wc.heap[gb1]? = some (.cells #[.int .i64 a0_0, .int .u32 a0_1, (.slice A0_2 l0_2.length c0_2), (.slice A0_3 l0_3.length c0_3)] 26 (0, 0))) ∧ Aside0 (wc.heap[gb2]? = some (.cells #[.int .u32 a1_0, .int .i64 a1_1, (.slice A1_2 l1_2.length c1_2), (.slice A1_3 l1_3.length c1_3), .int .u32 a1_4, .int .u32 a1_5, .int .i64 a1_6, .int .u32 a1_7] 30 (0, 0))) ∧ Aside0 (wc.heap[gb26]? = some (.cells #[.int .i64 t6, .int .u32 t7, (.slice Ao33 t8.length co33), (.slice Ao35 t11.length co35)] 26 (0, 0))) ∧ Aside0 (wc.heap[gb27]? = some (.cells #[.int .u32 t14, .int .i64 t15, (.slice Ao39 t16.length co39), (.slice Ao41 t19.length co41), .int .u32 t22, .int .u32 t23, .int .i64 t24, .int .u32 t25] 30 (0, 0))) ∧ Aside0 (wc.heap[gb40]? = some (.cells #[.int .u32 t28, .int .i64 t29, (.slice Ao62 t30.length co62), (.slice Ao63 t33.length co63), .int .u32 t36, .int .u32 t37, .int .i64 t38, .int .u32 t39] 30 (0, 0))) ∧ Aside0 (Below w.heap.size w wc))
     case first =>
      have H := HC24.out
      clear HC24
      replace H := Option.bind_eq_some_iff.mp H
      obtain ⟨t41, A640, H⟩ := H
      replace H : ((q13z.f kj4 a0_0 a0_1 l0_2 l0_3).bind fun t42 => (if (t41 != t42) = true then (q29z.j1 kj4 true a0_0 a0_1 l0_2 l0_3 a1_0 a1_1 l1_2 l1_3 a1_4 a1_5 a1_6 a1_7 t6 t7 t8 t11 t14 t15 t16 t19 t22 t23 t24 t25) else ((q21z.f kj4 a0_0 a0_1 l0_2 l0_3 a1_0 a1_1 l1_2 l1_3 a1_4 a1_5 a1_6 a1_7).bind fun bt43 => ((q16z.f kj4 t28 t29 t30 t33 t36 t37 t38 t39 bt43.1 bt43.2.1 bt43.2.2.1 bt43.2.2.2.1 bt43.2.2.2.2.1 bt43.2.2.2.2.2.1 bt43.2.2.2.2.2.2.1 bt43.2.2.2.2.2.2.2).bind fun t55 => (q29z.j1 kj4 (t55 != 0) a0_0 a0_1 l0_2 l0_3 a1_0 a1_1 l1_2 l1_3 a1_4 a1_5 a1_6 a1_7 t6 t7 t8 t11 t14 t15 t16 t19 t22 t23 t24 t25))))) = some r := H
      have A64 := Aside0.mk A640
      clear A640
      replace H := Option.bind_eq_some_iff.mp H
      obtain ⟨t42, A650, H⟩ := H
      replace H : (if (t41 != t42) = true then (q29z.j1 kj4 true a0_0 a0_1 l0_2 l0_3 a1_0 a1_1 l1_2 l1_3 a1_4 a1_5 a1_6 a1_7 t6 t7 t8 t11 t14 t15 t16 t19 t22 t23 t24 t25) else ((q21z.f kj4 a0_0 a0_1 l0_2 l0_3 a1_0 a1_1 l1_2 l1_3 a1_4 a1_5 a1_6 a1_7).bind fun bt43 => ((q16z.f kj4 t28 t29 t30 t33 t36 t37 t38 t39 bt43.1 bt43.2.1 bt43.2.2.1 bt43.2.2.2.1 bt43.2.2.2.2.1 bt43.2.2.2.2.2.1 bt43.2.2.2.2.2.2.1 bt43.2.2.2.2.2.2.2).bind fun t55 => (q29z.j1 kj4 (t55 != 0) a0_0 a0_1 l0_2 l0_3 a1_0 a1_1 l1_2 l1_3 a1_4 a1_5 a1_6 a1_7 t6 t7 t8 t11 t14 t15 t16 t19 t22 t23 t24 t25)))) = some r := H
      have A65 := Aside0.mk A650
      clear A650
      by_cases c66 : (t41 != t42) = true
      ·
       rw [if_pos c66] at H
       have c66b0 : (t41 != t42) = true := c66
       (try (have c66b1 : decide (t41 = t42) = false := by simpa using c66))
       (try (have c66b2 : (t41 == t42) = false := by simpa using c66))
       (try (have c66b3 : ¬ (t41 = t42) := by simpa using c66))
       clear c66
       (first | rw [c66b0] | (simp only [i64_w, i32_w, IntKind.wrap_u32]; rw [c66b0]) | skip)
       have H' := Aside0.mk H
       clear H
       try go_wp2
       have n0_ : Aside0 (Kd.R (Kd.int .u32) 22 ((((((((w56.setCell ⟨gb40, 0, none⟩ (.int .u32 t28)).setCell ⟨gb40, 1, none⟩ (.int .i64 t29)).setCell ⟨gb40, 2, none⟩ (.slice Ao62 t30.length co62)).setCell ⟨gb40, 3, none⟩ (.slice Ao63 t33.length co63)).setCell ⟨gb40, 4, none⟩ (.int .u32 t36)).setCell ⟨gb40, 5, none⟩ (.int .u32 t37)).setCell ⟨gb40, 6, none⟩ (.int .i64 t38)).setCell ⟨gb40, 7, none⟩ (.int .u32 t39)) w.heap.size (fun k_ => some k_ ≠ (.slice Ao39 t16.length co39 : Value).ownBlock ∧ some k_ ≠ (.slice Ao41 t19.length co41 : Value).ownBlock ∧ some k_ ≠ (.slice Ao62 t30.length co62 : Value).ownBlock ∧ some k_ ≠ (.slice Ao63 t33.length co63 : Value).ownBlock) (.slice Ao33 t8.length co33) t8) := ⟨moR (rW HO10)⟩
       have n1_ : Aside0 (Kd.S k53 53 ((((((((w56.setCell ⟨gb40, 0, none⟩ (.int .u32 t28)).setCell ⟨gb40, 1, none⟩ (.int .i64 t29)).setCell ⟨gb40, 2, none⟩ (.slice Ao62 t30.length co62)).setCell ⟨gb40, 3, none⟩ (.slice Ao63 t33.length co63)).setCell ⟨gb40, 4, none⟩ (.int .u32 t36)).setCell ⟨gb40, 5, none⟩ (.int .u32 t37)).setCell ⟨gb40, 6, none⟩ (.int .i64 t38)).setCell ⟨gb40, 7, none⟩ (.int .u32 t39)) w.heap.size (fun _ => True) (.slice Ao35 t11.length co35) t11) := ⟨by (with_reducible repeat (first | apply Kd.S_alloc | apply Kd.S_drewN | apply Kd.S_drew)); exact Kd.S_mono (Kd.S_far (p := ⟨gb40, 7, none⟩) (Kd.S_far (p := ⟨gb40, 6, none⟩) (Kd.S_far (p := ⟨gb40, 5, none⟩) (Kd.S_far (p := ⟨gb40, 4, none⟩) (Kd.S_far (p := ⟨gb40, 3, none⟩) (Kd.S_far (p := ⟨gb40, 2, none⟩) (Kd.S_far (p := ⟨gb40, 1, none⟩) (Kd.S_far (p := ⟨gb40, 0, none⟩) (Kd.S_types HO13.out BK40.out (by decide)) (fun _ hk => hk.2) (.int .u32 t28)) (fun _ hk => hk.2) (.int .i64 t29)) (fun _ hk => hk.2) (.slice Ao62 t30.length co62)) (fun _ hk => hk.2) (.slice Ao63 t33.length co63)) (fun _ hk => hk.2) (.int .u32 t36)) (fun _ hk => hk.2) (.int .u32 t37)) (fun _ hk => hk.2) (.int .i64 t38)) (fun _ hk => hk.2) (.int .u32 t39)) (fun _ hk => trivial)⟩
       have n2_ : Aside0 (Kd.R (Kd.int .u32) 22 ((((((((w56.setCell ⟨gb40, 0, none⟩ (.int .u32 t28)).setCell ⟨gb40, 1, none⟩ (.int .i64 t29)).setCell ⟨gb40, 2, none⟩ (.slice Ao62 t30.length co62)).setCell ⟨gb40, 3, none⟩ (.slice Ao63 t33.length co63)).setCell ⟨gb40, 4, none⟩ (.int .u32 t36)).setCell ⟨gb40, 5, none⟩ (.int .u32 t37)).setCell ⟨gb40, 6, none⟩ (.int .i64 t38)).setCell ⟨gb40, 7, none⟩ (.int .u32 t39)) w.heap.size (fun k_ => some k_ ≠ (.slice Ao33 t8.length co33 : Value).ownBlock ∧ some k_ ≠ (.slice Ao41 t19.length co41 : Value).ownBlock ∧ some k_ ≠ (.slice Ao62 t30.length co62 : Value).ownBlock ∧ some k_ ≠ (.slice Ao63 t33.length co63 : Value).ownBlock) (.slice Ao39 t16.length co39) t16) := ⟨moR (rW HO18)⟩
       have n3_ : Aside0 (Kd.R (Kd.int .u32) 22 ((((((((w56.setCell ⟨gb40, 0, none⟩ (.int .u32 t28)).setCell ⟨gb40, 1, none⟩ (.int .i64 t29)).setCell ⟨gb40, 2, none⟩ (.slice Ao62 t30.length co62)).setCell ⟨gb40, 3, none⟩ (.slice Ao63 t33.length co63)).setCell ⟨gb40, 4, none⟩ (.int .u32 t36)).setCell ⟨gb40, 5, none⟩ (.int .u32 t37)).setCell ⟨gb40, 6, none⟩ (.int .i64 t38)).setCell ⟨gb40, 7, none⟩ (.int .u32 t39)) w.heap.size (fun k_ => some k_ ≠ (.slice Ao33 t8.length co33 : Value).ownBlock ∧ some k_ ≠ (.slice Ao39 t16.length co39 : Value).ownBlock ∧ some k_ ≠ (.slice Ao62 t30.length co62 : Value).ownBlock ∧ some k_ ≠ (.slice Ao63 t33.length co63 : Value).ownBlock) (.slice Ao41 t19.length co41) t19) := ⟨moR (rW HO21)⟩
       have n4_ : Aside0 (Kd.R (Kd.int .u32) 22 ((((((((w56.setCell ⟨gb40, 0, none⟩ (.int .u32 t28)).setCell ⟨gb40, 1, none⟩ (.int .i64 t29)).setCell ⟨gb40, 2, none⟩ (.slice Ao62 t30.length co62)).setCell ⟨gb40, 3, none⟩ (.slice Ao63 t33.length co63)).setCell ⟨gb40, 4, none⟩ (.int .u32 t36)).setCell ⟨gb40, 5, none⟩ (.int .u32 t37)).setCell ⟨gb40, 6, none⟩ (.int .i64 t38)).setCell ⟨gb40, 7, none⟩ (.int .u32 t39)) w.heap.size (fun k_ => some k_ ≠ (.slice Ao33 t8.length co33 : Value).ownBlock ∧ some k_ ≠ (.slice Ao39 t16.length co39 : Value).ownBlock ∧ some k_ ≠ (.slice Ao41 t19.length co41 : Value).ownBlock ∧ some k_ ≠ (.slice Ao63 t33.length co63 : Value).ownBlock) (.slice Ao62 t30.length co62) t30) := ⟨moR (rW HO32)⟩
       have n5_ : Aside0 (Kd.R (Kd.int .u32) 22 ((((((((w56.setCell ⟨gb40, 0, none⟩ (.int .u32 t28)).setCell ⟨gb40, 1, none⟩ (.int .i64 t29)).setCell ⟨gb40, 2, none⟩ (.slice Ao62 t30.length co62)).setCell ⟨gb40, 3, none⟩ (.slice Ao63 t33.length co63)).setCell ⟨gb40, 4, none⟩ (.int .u32 t36)).setCell ⟨gb40, 5, none⟩ (.int .u32 t37)).setCell ⟨gb40, 6, none⟩ (.int .i64 t38)).setCell ⟨gb40, 7, none⟩ (.int .u32 t39)) w.heap.size (fun k_ => some k_ ≠ (.slice Ao33 t8.length co33 : Value).ownBlock ∧ some k_ ≠ (.slice Ao39 t16.length co39 : Value).ownBlock ∧ some k_ ≠ (.slice Ao41 t19.length co41 : Value).ownBlock ∧ some k_ ≠ (.slice Ao62 t30.length co62 : Value).ownBlock) (.slice Ao63 t33.length co63) t33) := ⟨moR (rW HO35)⟩
       have n6_ : Aside0 (((((((((w56.setCell ⟨gb40, 0, none⟩ (.int .u32 t28)).setCell ⟨gb40, 1, none⟩ (.int .i64 t29)).setCell ⟨gb40, 2, none⟩ (.slice Ao62 t30.length co62)).setCell ⟨gb40, 3, none⟩ (.slice Ao63 t33.length co63)).setCell ⟨gb40, 4, none⟩ (.int .u32 t36)).setCell ⟨gb40, 5, none⟩ (.int .u32 t37)).setCell ⟨gb40, 6, none⟩ (.int .i64 t38)).setCell ⟨gb40, 7, none⟩ (.int .u32 t39)).heap[gb1]? = some (.cells #[.int .i64 a0_0, .int .u32 a0_1, .slice A0_2 l0_2.length c0_2, .slice A0_3 l0_3.length c0_3] 26 (0, 0))) := ⟨by (with_reducible repeat (first | refine blk_drewN ?_ _ | refine blk_drew ?_ | refine blk_alloc ?_ _)); refine blk_far ?_ NB1_40.out _; (with_reducible repeat (first | refine blk_drewN ?_ _ | refine blk_drew ?_ | refine blk_alloc ?_ _)); refine blk_far ?_ NB1_40.out _; (with_reducible repeat (first | refine blk_drewN ?_ _ | refine blk_drew ?_ | refine blk_alloc ?_ _)); refine blk_far ?_ NB1_40.out _; (with_reducible repeat (first | refine blk_drewN ?_ _ | refine blk_drew ?_ | refine blk_alloc ?_ _)); refine blk_far ?_ NB1_40.out _; (with_reducible repeat (first | refine blk_drewN ?_ _ | refine blk_drew ?_ | refine blk_alloc ?_ _)); refine blk_far ?_ NB1_40.out _; (with_reducible repeat (first | refine blk_drewN ?_ _ | refine blk_drew ?_ | refine blk_alloc ?_ _)); refine blk_far ?_ NB1_40.out _; (with_reducible repeat (first | refine blk_drewN ?_ _ | refine blk_drew ?_ | refine blk_alloc ?_ _)); refine blk_far ?_ NB1_40.out _; (with_reducible repeat (first | refine blk_drewN ?_ _ | refine blk_drew ?_ | refine blk_alloc ?_ _)); refine blk_far ?_ NB1_40.out _; (with_reducible repeat (first | refine blk_drewN ?_ _ | refine blk_drew ?_ | refine blk_alloc ?_ _)); exact BK1.out⟩
       have n7_ : Aside0 (((((((((w56.setCell ⟨gb40, 0, none⟩ (.int .u32 t28)).setCell ⟨gb40, 1, none⟩ (.int .i64 t29)).setCell ⟨gb40, 2, none⟩ (.slice Ao62 t30.length co62)).setCell ⟨gb40, 3, none⟩ (.slice Ao63 t33.length co63)).setCell ⟨gb40, 4, none⟩ (.int .u32 t36)).setCell ⟨gb40, 5, none⟩ (.int .u32 t37)).setCell ⟨gb40, 6, none⟩ (.int .i64 t38)).setCell ⟨gb40, 7, none⟩ (.int .u32 t39)).heap[gb2]? = some (.cells #[.int .u32 a1_0, .int .i64 a1_1, .slice A1_2 l1_2.length c1_2, .slice A1_3 l1_3.length c1_3, .int .u32 a1_4, .int .u32 a1_5, .int .i64 a1_6, .int .u32 a1_7] 30 (0, 0))) := ⟨by (with_reducible repeat (first | refine blk_drewN ?_ _ | refine blk_drew ?_ | refine blk_alloc ?_ _)); refine blk_far ?_ NB2_40.out _; (with_reducible repeat (first | refine blk_drewN ?_ _ | refine blk_drew ?_ | refine blk_alloc ?_ _)); refine blk_far ?_ NB2_40.out _; (with_reducible repeat (first | refine blk_drewN ?_ _ | refine blk_drew ?_ | refine blk_alloc ?_ _)); refine blk_far ?_ NB2_40.out _; (with_reducible repeat (first | refine blk_drewN ?_ _ | refine blk_drew ?_ | refine blk_alloc ?_ _)); refine blk_far ?_ NB2_40.out _; (with_reducible repeat (first | refine blk_drewN ?_ _ | refine blk_drew ?_ | refine blk_alloc ?_ _)); refine blk_far ?_ NB2_40.out _; (with_reducible repeat (first | refine blk_drewN ?_ _ | refine blk_drew ?_ | refine blk_alloc ?_ _)); refine blk_far ?_ NB2_40.out _; (with_reducible repeat (first | refine blk_drewN ?_ _ | refine blk_drew ?_ | refine blk_alloc ?_ _)); refine blk_far ?_ NB2_40.out _; (with_reducible repeat (first | refine blk_drewN ?_ _ | refine blk_drew ?_ | refine blk_alloc ?_ _)); refine blk_far ?_ NB2_40.out _; (with_reducible repeat (first | refine blk_drewN ?_ _ | refine blk_drew ?_ | refine blk_alloc ?_ _)); exact BK2.out⟩
       have n8_ : Aside0 (((((((((w56.setCell ⟨gb40, 0, none⟩ (.int .u32 t28)).setCell ⟨gb40, 1, none⟩ (.int .i64 t29)).setCell ⟨gb40, 2, none⟩ (.slice Ao62 t30.length co62)).setCell ⟨gb40, 3, none⟩ (.slice Ao63 t33.length co63)).setCell ⟨gb40, 4, none⟩ (.int .u32 t36)).setCell ⟨gb40, 5, none⟩ (.int .u32 t37)).setCell ⟨gb40, 6, none⟩ (.int .i64 t38)).setCell ⟨gb40, 7, none⟩ (.int .u32 t39)).heap[gb26]? = some (.cells #[.int .i64 t6, .int .u32 t7, .slice Ao33 t8.length co33, .slice Ao35 t11.length co35] 26 (0, 0))) := ⟨by (with_reducible repeat (first | refine blk_drewN ?_ _ | refine blk_drew ?_ | refine blk_alloc ?_ _)); refine blk_far ?_ NB26_40.out _; (with_reducible repeat (first | refine blk_drewN ?_ _ | refine blk_drew ?_ | refine blk_alloc ?_ _)); refine blk_far ?_ NB26_40.out _; (with_reducible repeat (first | refine blk_drewN ?_ _ | refine blk_drew ?_ | refine blk_alloc ?_ _)); refine blk_far ?_ NB26_40.out _; (with_reducible repeat (first | refine blk_drewN ?_ _ | refine blk_drew ?_ | refine blk_alloc ?_ _)); refine blk_far ?_ NB26_40.out _; (with_reducible repeat (first | refine blk_drewN ?_ _ | refine blk_drew ?_ | refine blk_alloc ?_ _)); refine blk_far ?_ NB26_40.out _; (with_reducible repeat (first | refine blk_drewN ?_ _ | refine blk_drew ?_ | refine blk_alloc ?_ _)); refine blk_far ?_ NB26_40.out _; (with_reducible repeat (first | refine blk_drewN ?_ _ | refine blk_drew ?_ | refine blk_alloc ?_ _)); refine blk_far ?_ NB26_40.out _; (with_reducible repeat (first | refine blk_drewN ?_ _ | refine blk_drew ?_ | refine blk_alloc ?_ _)); refine blk_far ?_ NB26_40.out _; (with_reducible repeat (first | refine blk_drewN ?_ _ | refine blk_drew ?_ | refine blk_alloc ?_ _)); exact BK26.out⟩
       have n9_ : Aside0 (((((((((w56.setCell ⟨gb40, 0, none⟩ (.int .u32 t28)).setCell ⟨gb40, 1, none⟩ (.int .i64 t29)).setCell ⟨gb40, 2, none⟩ (.slice Ao62 t30.length co62)).setCell ⟨gb40, 3, none⟩ (.slice Ao63 t33.length co63)).setCell ⟨gb40, 4, none⟩ (.int .u32 t36)).setCell ⟨gb40, 5, none⟩ (.int .u32 t37)).setCell ⟨gb40, 6, none⟩ (.int .i64 t38)).setCell ⟨gb40, 7, none⟩ (.int .u32 t39)).heap[gb27]? = some (.cells #[.int .u32 t14, .int .i64 t15, .slice Ao39 t16.length co39, .slice Ao41 t19.length co41, .int .u32 t22, .int .u32 t23, .int .i64 t24, .int .u32 t25] 30 (0, 0))) := ⟨by (with_reducible repeat (first | refine blk_drewN ?_ _ | refine blk_drew ?_ | refine blk_alloc ?_ _)); refine blk_far ?_ NB27_40.out _; (with_reducible repeat (first | refine blk_drewN ?_ _ | refine blk_drew ?_ | refine blk_alloc ?_ _)); refine blk_far ?_ NB27_40.out _; (with_reducible repeat (first | refine blk_drewN ?_ _ | refine blk_drew ?_ | refine blk_alloc ?_ _)); refine blk_far ?_ NB27_40.out _; (with_reducible repeat (first | refine blk_drewN ?_ _ | refine blk_drew ?_ | refine blk_alloc ?_ _)); refine blk_far ?_ NB27_40.out _; (with_reducible repeat (first | refine blk_drewN ?_ _ | refine blk_drew ?_ | refine blk_alloc ?_ _)); refine blk_far ?_ NB27_40.out _; (with_reducible repeat (first | refine blk_drewN ?_ _ | refine blk_drew ?_ | refine blk_alloc ?_ _)); refine blk_far ?_ NB27_40.out _; (with_reducible repeat (first | refine blk_drewN ?_ _ | refine blk_drew ?_ | refine blk_alloc ?_ _)); refine blk_far ?_ NB27_40.out _; (with_reducible repeat (first | refine blk_drewN ?_ _ | refine blk_drew ?_ | refine blk_alloc ?_ _)); refine blk_far ?_ NB27_40.out _; (with_reducible repeat (first | refine blk_drewN ?_ _ | refine blk_drew ?_ | refine blk_alloc ?_ _)); exact BK27.out⟩
       have n10_ : Aside0 (((((((((w56.setCell ⟨gb40, 0, none⟩ (.int .u32 t28)).setCell ⟨gb40, 1, none⟩ (.int .i64 t29)).setCell ⟨gb40, 2, none⟩ (.slice Ao62 t30.length co62)).setCell ⟨gb40, 3, none⟩ (.slice Ao63 t33.length co63)).setCell ⟨gb40, 4, none⟩ (.int .u32 t36)).setCell ⟨gb40, 5, none⟩ (.int .u32 t37)).setCell ⟨gb40, 6, none⟩ (.int .i64 t38)).setCell ⟨gb40, 7, none⟩ (.int .u32 t39)).heap[gb40]? = some (.cells #[.int .u32 t28, .int .i64 t29, .slice Ao62 t30.length co62, .slice Ao63 t33.length co63, .int .u32 t36, .int .u32 t37, .int .i64 t38, .int .u32 t39] 30 (0, 0))) := ⟨by (with_reducible repeat (first | refine blk_drewN ?_ _ | refine blk_drew ?_ | refine blk_alloc ?_ _)); refine blk_put (cs := #[.int .u32 t28, .int .i64 t29, .slice Ao62 t30.length co62, .slice Ao63 t33.length co63, .int .u32 t36, .int .u32 t37, .int .i64 t38, .int .u32 0]) ?_ 7 _ rfl; (with_reducible repeat (first | refine blk_drewN ?_ _ | refine blk_drew ?_ | refine blk_alloc ?_ _)); refine blk_put (cs := #[.int .u32 t28, .int .i64 t29, .slice Ao62 t30.length co62, .slice Ao63 t33.length co63, .int .u32 t36, .int .u32 t37, .int .i64 0, .int .u32 0]) ?_ 6 _ rfl; (with_reducible repeat (first | refine blk_drewN ?_ _ | refine blk_drew ?_ | refine blk_alloc ?_ _)); refine blk_put (cs := #[.int .u32 t28, .int .i64 t29, .slice Ao62 t30.length co62, .slice Ao63 t33.length co63, .int .u32 t36, .int .u32 0, .int .i64 0, .int .u32 0]) ?_ 5 _ rfl; (with_reducible repeat (first | refine blk_drewN ?_ _ | refine blk_drew ?_ | refine blk_alloc ?_ _)); refine blk_put (cs := #[.int .u32 t28, .int .i64 t29, .slice Ao62 t30.length co62, .slice Ao63 t33.length co63, .int .u32 0, .int .u32 0, .int .i64 0, .int .u32 0]) ?_ 4 _ rfl; (with_reducible repeat (first | refine blk_drewN ?_ _ | refine blk_drew ?_ | refine blk_alloc ?_ _)); refine blk_put (cs := #[.int .u32 t28, .int .i64 t29, .slice Ao62 t30.length co62, .slice none 0 0, .int .u32 0, .int .u32 0, .int .i64 0, .int .u32 0]) ?_ 3 _ rfl; (with_reducible repeat (first | refine blk_drewN ?_ _ | refine blk_drew ?_ | refine blk_alloc ?_ _)); refine blk_put (cs := #[.int .u32 t28, .int .i64 t29, .slice none 0 0, .slice none 0 0, .int .u32 0, .int .u32 0, .int .i64 0, .int .u32 0]) ?_ 2 _ rfl; (with_reducible repeat (first | refine blk_drewN ?_ _ | refine blk_drew ?_ | refine blk_alloc ?_ _)); refine blk_put (cs := #[.int .u32 t28, .int .i64 0, .slice none 0 0, .slice none 0 0, .int .u32 0, .int .u32 0, .int .i64 0, .int .u32 0]) ?_ 1 _ rfl; (with_reducible repeat (first | refine blk_drewN ?_ _ | refine blk_drew ?_ | refine blk_alloc ?_ _)); refine blk_put (cs := #[.int .u32 0, .int .i64 0, .slice none 0 0, .slice none 0 0, .int .u32 0, .int .u32 0, .int .i64 0, .int .u32 0]) ?_ 0 _ rfl; (with_reducible repeat (first | refine blk_drewN ?_ _ | refine blk_drew ?_ | refine blk_alloc ?_ _)); exact BK40.out⟩
       have n11_ : Aside0 (Below w.heap.size w ((((((((w56.setCell ⟨gb40, 0, none⟩ (.int .u32 t28)).setCell ⟨gb40, 1, none⟩ (.int .i64 t29)).setCell ⟨gb40, 2, none⟩ (.slice Ao62 t30.length co62)).setCell ⟨gb40, 3, none⟩ (.slice Ao63 t33.length co63)).setCell ⟨gb40, 4, none⟩ (.int .u32 t36)).setCell ⟨gb40, 5, none⟩ (.int .u32 t37)).setCell ⟨gb40, 6, none⟩ (.int .i64 t38)).setCell ⟨gb40, 7, none⟩ (.int .u32 t39))) := ⟨hbW HB⟩
       (try clear HO10)
       (try clear HO13)
       (try clear HO18)
       (try clear HO21)
       (try clear HO32)
       (try clear HO35)
       (try clear BK1)
       (try clear BK2)
       (try clear BK26)
       (try clear BK27)
       (try clear BK40)
       (try clear HB)
       generalize ((((((((w56.setCell ⟨gb40, 0, none⟩ (.int .u32 t28)).setCell ⟨gb40, 1, none⟩ (.int .i64 t29)).setCell ⟨gb40, 2, none⟩ (.slice Ao62 t30.length co62)).setCell ⟨gb40, 3, none⟩ (.slice Ao63 t33.length co63)).setCell ⟨gb40, 4, none⟩ (.int .u32 t36)).setCell ⟨gb40, 5, none⟩ (.int .u32 t37)).setCell ⟨gb40, 6, none⟩ (.int .i64 t38)).setCell ⟨gb40, 7, none⟩ (.int .u32 t39)) = w67 at n0_ n1_ n2_ n3_ n4_ n5_ n6_ n7_ n8_ n9_ n10_ n11_ ⊢
       have HO10 := n0_
       have HO13 := n1_
       have HO18 := n2_
       have HO21 := n3_
       have HO32 := n4_
       have HO35 := n5_
       have BK1 := n6_
       have BK2 := n7_
       have BK26 := n8_
       have BK27 := n9_
       have BK40 := n10_
       have HB := n11_
       clear n0_ n1_ n2_ n3_ n4_ n5_ n6_ n7_ n8_ n9_ n10_ n11_
       replace HO10 := Aside0.mk (Kd.R_drew HO10.out)
       replace HO13 := Aside0.mk (Kd.S_drew HO13.out)
       replace HO18 := Aside0.mk (Kd.R_drew HO18.out)
       replace HO21 := Aside0.mk (Kd.R_drew HO21.out)
       replace HO32 := Aside0.mk (Kd.R_drew HO32.out)
       replace HO35 := Aside0.mk (Kd.R_drew HO35.out)
       replace BK1 := Aside0.mk (blk_drew BK1.out)
       replace BK2 := Aside0.mk (blk_drew BK2.out)
       replace BK26 := Aside0.mk (blk_drew BK26.out)
       replace BK27 := Aside0.mk (blk_drew BK27.out)
       replace BK40 := Aside0.mk (blk_drew BK40.out)
       replace HB := Aside0.mk (below_drew1 HB.out)
       refine start_ (n := 13) (S := fun w' => w'.cell? ⟨gb26, 0, none⟩ = some (.int .i64 t6) ∧ w'.cell? ⟨gb26, 1, none⟩ = some (.int .u32 t7) ∧ w'.cell? ⟨gb26, 2, none⟩ = some (.slice Ao33 t8.length co33) ∧ w'.cell? ⟨gb26, 3, none⟩ = some (.slice Ao35 t11.length co35) ∧ w'.cell? ⟨gb1, 0, none⟩ = some (.int .i64 a0_0) ∧ w'.cell? ⟨gb1, 1, none⟩ = some (.int .u32 a0_1) ∧ w'.cell? ⟨gb1, 2, none⟩ = some (.slice A0_2 l0_2.length c0_2) ∧ w'.cell? ⟨gb1, 3, none⟩ = some (.slice A0_3 l0_3.length c0_3)) (ds := []) #[false, false, false, false, false, false, false, false, false, false, false, false, false] (by kernel_rfl) rfl rfl (bk4 BK26 (bl4 BK1)) (fun hHeld => ?_); refine with_tabW q29z.tab7 q29z.bits7 (fun HT_ HW_ => ?_)
       generalize w67.drew = w68 at HO10 HO13 HO18 HO21 HO32 HO35 BK1 BK2 BK26 BK27 BK40 HB hHeld ⊢
       refine take_ (i := 0) (N := some 26) (v := ?_) (a' := ?_) #[true, false, false, false, false, false, false, false, false, false, false, false, false] rfl rfl (take_ofW HT_.out HW_.out (by kernel_rfl)) (fun _ _ _ h => h) (Or.inl ⟨by rfl, ?_⟩) hHeld ?_ ?_
       rotate_left
       ·
        rintro w' ⟨s0, s1, s2, s3, s4, s5, s6, s7⟩
        go_simp
        with_reducible rfl
       rotate_left
       ·
        simp only [Act.put, List.setIfInBounds_toArray, List.set_cons_zero, List.set_cons_succ, i64_w, i32_w, IntKind.wrap_u32]
        rfl
       refine take_ (i := 2) (N := some 28) (v := ?_) (a' := ?_) #[true, false, true, false, false, false, false, false, false, false, false, false, false] rfl rfl (take_ofW HT_.out HW_.out (by kernel_rfl)) (fun _ _ _ h => h) (Or.inl ⟨by rfl, ?_⟩) hHeld ?_ ?_
       rotate_left
       ·
        rintro w' ⟨s0, s1, s2, s3, s4, s5, s6, s7⟩
        go_simp
        with_reducible rfl
       rotate_left
       ·
        simp only [Act.put, List.setIfInBounds_toArray, List.set_cons_zero, List.set_cons_succ, i64_w, i32_w, IntKind.wrap_u32]
        rfl
       refine one_ (i := 1) (N := some 27) #[true, true, true, false, false, false, false, false, false, false, false, false, false] rfl rfl (one_of HT_.out (by kernel_rfl)) (by decide) (fun K hK => ?_)
       refine goes_ Try.func14 (by kernel_rfl) rfl #[.agg #[.int .i64 t6, .int .u32 t7, .slice Ao33 t8.length co33, .slice Ao35 t11.length co35]] (by rfl) rfl rfl (by (try simp only [List.map_toArray, List.map_cons, List.map_nil]); first | done | rfl | (simp only [List.length_drop, List.length_take]; rfl)) ?_
       with_reducible refine (q7z.calls kj4 t6 t7 _ _ t8 _ _ t11 t41 _ ?side1 ?side2 ?side3 ?side4 A64.out).mono ?_
       (case side1 => repeat (first | exact (Kd.R_reads' HO10.out).2.2 | (with_reducible refine Kd.C_alloc ?_ _) | (with_reducible refine Kd.C_drewN ?_ _) | (with_reducible refine Kd.C_drew ?_)))
       (case side2 => exact (Kd.R_reads' HO10.out).2.1)
       (case side3 => repeat (first | exact (Kd.S_reads' HO13.out).2.2 | (with_reducible refine Kd.C_alloc ?_ _) | (with_reducible refine Kd.C_drewN ?_ _) | (with_reducible refine Kd.C_drew ?_)))
       (case side4 => exact (Kd.S_reads' HO13.out).2.1)
       rintro e w69 ⟨rfl, hb⟩
       refine ⟨_, rfl, ?_⟩
       replace HO10 := Aside0.mk (Kd.R_below (rW HO10) hb)
       replace HO13 := Aside0.mk (Kd.S_below (by (with_reducible repeat (first | apply Kd.S_alloc | apply Kd.S_drewN | apply Kd.S_drew)); exact HO13.out) hb)
       replace HO18 := Aside0.mk (Kd.R_below (rW HO18) hb)
       replace HO21 := Aside0.mk (Kd.R_below (rW HO21) hb)
       replace HO32 := Aside0.mk (Kd.R_below (rW HO32) hb)
       replace HO35 := Aside0.mk (Kd.R_below (rW HO35) hb)
       replace BK1 := bkB BK1 hb
       replace BK2 := bkB BK2 hb
       replace BK26 := bkB BK26 hb
       replace BK27 := bkB BK27 hb
       replace BK40 := bkB BK40 hb
       replace HB := hbS HB hb
       (try clear hb)
       refine hK.out _ _ (bk4 BK26 (bl4 BK1)) (fun hHeld => ?_)
       clear hK K
       refine norm_ (a' := ?_) ?_ ?_
       rotate_left
       ·
        show Act.put _ (some 27) _ = _
        simp only [Act.put, List.setIfInBounds_toArray, List.set_cons_zero, List.set_cons_succ, i64_w, i32_w, IntKind.wrap_u32]
        rfl
       refine one_ (i := 3) (N := some 29) #[true, true, true, true, false, false, false, false, false, false, false, false, false] rfl rfl (one_of HT_.out (by kernel_rfl)) (by decide) (fun K hK => ?_)
       refine goes_ Try.func15 (by kernel_rfl) rfl #[.agg #[.int .i64 a0_0, .int .u32 a0_1, .slice A0_2 l0_2.length c0_2, .slice A0_3 l0_3.length c0_3]] (by rfl) rfl rfl (by (try simp only [List.map_toArray, List.map_cons, List.map_nil]); first | done | rfl | (simp only [List.length_drop, List.length_take]; rfl)) ?_
       with_reducible refine (q13z.calls kj4 a0_0 a0_1 _ _ l0_2 _ _ l0_3 t42 _ ?side1 ?side2 ?side3 ?side4 A65.out).mono ?_
       (case side1 => repeat (first | exact (Kd.C_below HR0_2.out HB.out) | (with_reducible refine Kd.C_alloc ?_ _) | (with_reducible refine Kd.C_drewN ?_ _) | (with_reducible refine Kd.C_drew ?_)))
       (case side2 => exact HC0_2.out)
       (case side3 => repeat (first | exact (Kd.C_below HR0_3.out HB.out) | (with_reducible refine Kd.C_alloc ?_ _) | (with_reducible refine Kd.C_drewN ?_ _) | (with_reducible refine Kd.C_drew ?_)))
       (case side4 => exact HC0_3.out)
       rintro e w70 ⟨rfl, hb⟩
       refine ⟨_, rfl, ?_⟩
       replace HO10 := Aside0.mk (Kd.R_below (rW HO10) hb)
       replace HO13 := Aside0.mk (Kd.S_below (by (with_reducible repeat (first | apply Kd.S_alloc | apply Kd.S_drewN | apply Kd.S_drew)); exact HO13.out) hb)
       replace HO18 := Aside0.mk (Kd.R_below (rW HO18) hb)
       replace HO21 := Aside0.mk (Kd.R_below (rW HO21) hb)
       replace HO32 := Aside0.mk (Kd.R_below (rW HO32) hb)
       replace HO35 := Aside0.mk (Kd.R_below (rW HO35) hb)
       replace BK1 := bkB BK1 hb
       replace BK2 := bkB BK2 hb
       replace BK26 := bkB BK26 hb
       replace BK27 := bkB BK27 hb
       replace BK40 := bkB BK40 hb
       replace HB := hbS HB hb
       (try clear hb)
       refine hK.out _ _ (bk4 BK26 (bl4 BK1)) (fun hHeld => ?_)
       clear hK K
       refine norm_ (a' := ?_) ?_ ?_
       rotate_left
       ·
        show Act.put _ (some 29) _ = _
        simp only [Act.put, List.setIfInBounds_toArray, List.set_cons_zero, List.set_cons_succ, i64_w, i32_w, IntKind.wrap_u32]
        rfl
       refine pure_ (i := 4) (N := some 30) (v := ?_) (a' := ?_) #[true, true, true, true, true, false, false, false, false, false, false, false, false] rfl rfl (any_of HT_.out (by kernel_rfl)) (fun _ _ _ h => h) (Or.inl ⟨by rfl, ?_⟩) ?_ ?_
       rotate_left
       ·
        intro w'
        go_simp
        with_reducible rfl
       rotate_left
       ·
        simp only [Act.put, List.setIfInBounds_toArray, List.set_cons_zero, List.set_cons_succ, i64_w, i32_w, IntKind.wrap_u32]
        rfl
       refine pure_ (i := 5) (N := some 31) (v := ?_) (a' := ?_) #[true, true, true, true, true, true, false, false, false, false, false, false, false] rfl rfl (any_of HT_.out (by kernel_rfl)) (fun _ _ _ h => h) (Or.inl ⟨by rfl, ?_⟩) ?_ ?_
       rotate_left
       ·
        intro w'
        go_simp
        with_reducible rfl
       rotate_left
       ·
        simp only [Act.put, List.setIfInBounds_toArray, List.set_cons_zero, List.set_cons_succ, i64_w, i32_w, IntKind.wrap_u32]
        rfl
       refine pure_ (i := 6) (N := some 32) (v := undef) (a' := ?_) #[true, true, true, true, true, true, true, false, false, false, false, false, false] rfl rfl (any_of HT_.out (by kernel_rfl)) (fun _ _ _ h => h) (Or.inr ⟨by rfl, rfl⟩) ?_ ?_
       rotate_left
       ·
        simp only [Act.put, List.setIfInBounds_toArray, List.set_cons_zero, List.set_cons_succ, i64_w, i32_w, IntKind.wrap_u32]
        rfl
       refine pure_ (i := 7) (N := some 33) (v := undef) (a' := ?_) #[true, true, true, true, true, true, true, true, false, false, false, false, false] rfl rfl (any_of HT_.out (by kernel_rfl)) (fun _ _ _ h => h) (Or.inr ⟨by rfl, rfl⟩) ?_ ?_
       rotate_left
       ·
        simp only [Act.put, List.setIfInBounds_toArray, List.set_cons_zero, List.set_cons_succ, i64_w, i32_w, IntKind.wrap_u32]
        rfl
       refine pure_ (i := 8) (N := some 34) (v := undef) (a' := ?_) #[true, true, true, true, true, true, true, true, true, false, false, false, false] rfl rfl (any_of HT_.out (by kernel_rfl)) (fun _ _ _ h => h) (Or.inr ⟨by rfl, rfl⟩) ?_ ?_
       rotate_left
       ·
        simp only [Act.put, List.setIfInBounds_toArray, List.set_cons_zero, List.set_cons_succ, i64_w, i32_w, IntKind.wrap_u32]
        rfl
       refine pure_ (i := 9) (N := some 35) (v := undef) (a' := ?_) #[true, true, true, true, true, true, true, true, true, true, false, false, false] rfl rfl (any_of HT_.out (by kernel_rfl)) (fun _ _ _ h => h) (Or.inr ⟨by rfl, rfl⟩) ?_ ?_
       rotate_left
       ·
        simp only [Act.put, List.setIfInBounds_toArray, List.set_cons_zero, List.set_cons_succ, i64_w, i32_w, IntKind.wrap_u32]
        rfl
       refine pure_ (i := 10) (N := some 36) (v := undef) (a' := ?_) #[true, true, true, true, true, true, true, true, true, true, true, false, false] rfl rfl (any_of HT_.out (by kernel_rfl)) (fun _ _ _ h => h) (Or.inr ⟨by rfl, rfl⟩) ?_ ?_
       rotate_left
       ·
        simp only [Act.put, List.setIfInBounds_toArray, List.set_cons_zero, List.set_cons_succ, i64_w, i32_w, IntKind.wrap_u32]
        rfl
       refine pure_ (i := 11) (N := some 37) (v := undef) (a' := ?_) #[true, true, true, true, true, true, true, true, true, true, true, true, false] rfl rfl (any_of HT_.out (by kernel_rfl)) (fun _ _ _ h => h) (Or.inr ⟨by rfl, rfl⟩) ?_ ?_
       rotate_left
       ·
        simp only [Act.put, List.setIfInBounds_toArray, List.set_cons_zero, List.set_cons_succ, i64_w, i32_w, IntKind.wrap_u32]
        rfl
       refine pure_ (i := 12) (N := some 38) (v := ?_) (a' := ?_) #[true, true, true, true, true, true, true, true, true, true, true, true, true] rfl rfl (any_of HT_.out (by kernel_rfl)) (fun _ _ _ h => h) (Or.inl ⟨by rfl, ?_⟩) ?_ ?_
       rotate_left
       ·
        intro w'
        go_simp
        with_reducible rfl
       rotate_left
       ·
        simp only [Act.put, List.setIfInBounds_toArray, List.set_cons_zero, List.set_cons_succ, i64_w, i32_w, IntKind.wrap_u32]
        rfl
       refine done_ (done_of HT_.out (by kernel_rfl)) ?_
       try go_wp2
       go_meet
       case rel => exact ⟨_, (true), (by first | rfl | (simp; done) | (simp [*]; done)), H', ⟨by have := HJ4.out; first | omega | exact Nat.le_refl _⟩, ⟨by (with_reducible repeat (first | apply Kd.R_alloc | apply Kd.R_drewN | apply Kd.R_drew)); exact HO10.out⟩, ⟨by (with_reducible repeat (first | apply Kd.S_alloc | apply Kd.S_drewN | apply Kd.S_drew)); exact HO13.out⟩, ⟨by (with_reducible repeat (first | apply Kd.R_alloc | apply Kd.R_drewN | apply Kd.R_drew)); exact HO18.out⟩, ⟨by (with_reducible repeat (first | apply Kd.R_alloc | apply Kd.R_drewN | apply Kd.R_drew)); exact HO21.out⟩, ⟨by (with_reducible repeat (first | apply Kd.R_alloc | apply Kd.R_drewN | apply Kd.R_drew)); exact HO32.out⟩, ⟨by (with_reducible repeat (first | apply Kd.R_alloc | apply Kd.R_drewN | apply Kd.R_drew)); exact HO35.out⟩, ⟨by (with_reducible repeat (first | refine blk_drewN ?_ _ | refine blk_drew ?_ | refine blk_alloc ?_ _)); exact BK1.out⟩, ⟨by (with_reducible repeat (first | refine blk_drewN ?_ _ | refine blk_drew ?_ | refine blk_alloc ?_ _)); exact BK2.out⟩, ⟨by (with_reducible repeat (first | refine blk_drewN ?_ _ | refine blk_drew ?_ | refine blk_alloc ?_ _)); exact BK26.out⟩, ⟨by (with_reducible repeat (first | refine blk_drewN ?_ _ | refine blk_drew ?_ | refine blk_alloc ?_ _)); exact BK27.out⟩, ⟨by (with_reducible repeat (first | refine blk_drewN ?_ _ | refine blk_drew ?_ | refine blk_alloc ?_ _)); exact BK40.out⟩, ⟨hbW HB⟩⟩
      ·
       rw [if_neg c66] at H
       have c66b0 : (t41 != t42) = false := by simpa using c66
       (try (have c66b1 : decide (t41 = t42) = true := by simpa using c66))
       (try (have c66b2 : (t41 == t42) = true := by simpa using c66))
       clear c66
       (first | rw [c66b0] | (simp only [i64_w, i32_w, IntKind.wrap_u32]; rw [c66b0]) | skip)
       replace H := Option.bind_eq_some_iff.mp H
       obtain ⟨⟨t43, t44, t45, t48, t51, t52, t53, t54⟩, A710, H⟩ := H
       replace H : ((q16z.f kj4 t28 t29 t30 t33 t36 t37 t38 t39 t43 t44 t45 t48 t51 t52 t53 t54).bind fun t55 => (q29z.j1 kj4 (t55 != 0) a0_0 a0_1 l0_2 l0_3 a1_0 a1_1 l1_2 l1_3 a1_4 a1_5 a1_6 a1_7 t6 t7 t8 t11 t14 t15 t16 t19 t22 t23 t24 t25)) = some r := H
       have A71 := Aside0.mk A710
       clear A710
       replace H := Option.bind_eq_some_iff.mp H
       obtain ⟨t55, A720, H⟩ := H
       replace H : (q29z.j1 kj4 (t55 != 0) a0_0 a0_1 l0_2 l0_3 a1_0 a1_1 l1_2 l1_3 a1_4 a1_5 a1_6 a1_7 t6 t7 t8 t11 t14 t15 t16 t19 t22 t23 t24 t25) = some r := H
       have A72 := Aside0.mk A720
       clear A720
       have H' := Aside0.mk H
       clear H
       try go_wp2
       have n0_ : Aside0 (Kd.R (Kd.int .u32) 22 ((((((((w56.setCell ⟨gb40, 0, none⟩ (.int .u32 t28)).setCell ⟨gb40, 1, none⟩ (.int .i64 t29)).setCell ⟨gb40, 2, none⟩ (.slice Ao62 t30.length co62)).setCell ⟨gb40, 3, none⟩ (.slice Ao63 t33.length co63)).setCell ⟨gb40, 4, none⟩ (.int .u32 t36)).setCell ⟨gb40, 5, none⟩ (.int .u32 t37)).setCell ⟨gb40, 6, none⟩ (.int .i64 t38)).setCell ⟨gb40, 7, none⟩ (.int .u32 t39)) w.heap.size (fun k_ => some k_ ≠ (.slice Ao39 t16.length co39 : Value).ownBlock ∧ some k_ ≠ (.slice Ao41 t19.length co41 : Value).ownBlock ∧ some k_ ≠ (.slice Ao62 t30.length co62 : Value).ownBlock ∧ some k_ ≠ (.slice Ao63 t33.length co63 : Value).ownBlock) (.slice Ao33 t8.length co33) t8) := ⟨moR (rW HO10)⟩
       have n1_ : Aside0 (Kd.S k53 53 ((((((((w56.setCell ⟨gb40, 0, none⟩ (.int .u32 t28)).setCell ⟨gb40, 1, none⟩ (.int .i64 t29)).setCell ⟨gb40, 2, none⟩ (.slice Ao62 t30.length co62)).setCell ⟨gb40, 3, none⟩ (.slice Ao63 t33.length co63)).setCell ⟨gb40, 4, none⟩ (.int .u32 t36)).setCell ⟨gb40, 5, none⟩ (.int .u32 t37)).setCell ⟨gb40, 6, none⟩ (.int .i64 t38)).setCell ⟨gb40, 7, none⟩ (.int .u32 t39)) w.heap.size (fun _ => True) (.slice Ao35 t11.length co35) t11) := ⟨by (with_reducible repeat (first | apply Kd.S_alloc | apply Kd.S_drewN | apply Kd.S_drew)); exact Kd.S_mono (Kd.S_far (p := ⟨gb40, 7, none⟩) (Kd.S_far (p := ⟨gb40, 6, none⟩) (Kd.S_far (p := ⟨gb40, 5, none⟩) (Kd.S_far (p := ⟨gb40, 4, none⟩) (Kd.S_far (p := ⟨gb40, 3, none⟩) (Kd.S_far (p := ⟨gb40, 2, none⟩) (Kd.S_far (p := ⟨gb40, 1, none⟩) (Kd.S_far (p := ⟨gb40, 0, none⟩) (Kd.S_types HO13.out BK40.out (by decide)) (fun _ hk => hk.2) (.int .u32 t28)) (fun _ hk => hk.2) (.int .i64 t29)) (fun _ hk => hk.2) (.slice Ao62 t30.length co62)) (fun _ hk => hk.2) (.slice Ao63 t33.length co63)) (fun _ hk => hk.2) (.int .u32 t36)) (fun _ hk => hk.2) (.int .u32 t37)) (fun _ hk => hk.2) (.int .i64 t38)) (fun _ hk => hk.2) (.int .u32 t39)) (fun _ hk => trivial)⟩
       have n2_ : Aside0 (Kd.R (Kd.int .u32) 22 ((((((((w56.setCell ⟨gb40, 0, none⟩ (.int .u32 t28)).setCell ⟨gb40, 1, none⟩ (.int .i64 t29)).setCell ⟨gb40, 2, none⟩ (.slice Ao62 t30.length co62)).setCell ⟨gb40, 3, none⟩ (.slice Ao63 t33.length co63)).setCell ⟨gb40, 4, none⟩ (.int .u32 t36)).setCell ⟨gb40, 5, none⟩ (.int .u32 t37)).setCell ⟨gb40, 6, none⟩ (.int .i64 t38)).setCell ⟨gb40, 7, none⟩ (.int .u32 t39)) w.heap.size (fun k_ => some k_ ≠ (.slice Ao33 t8.length co33 : Value).ownBlock ∧ some k_ ≠ (.slice Ao41 t19.length co41 : Value).ownBlock ∧ some k_ ≠ (.slice Ao62 t30.length co62 : Value).ownBlock ∧ some k_ ≠ (.slice Ao63 t33.length co63 : Value).ownBlock) (.slice Ao39 t16.length co39) t16) := ⟨moR (rW HO18)⟩
       have n3_ : Aside0 (Kd.R (Kd.int .u32) 22 ((((((((w56.setCell ⟨gb40, 0, none⟩ (.int .u32 t28)).setCell ⟨gb40, 1, none⟩ (.int .i64 t29)).setCell ⟨gb40, 2, none⟩ (.slice Ao62 t30.length co62)).setCell ⟨gb40, 3, none⟩ (.slice Ao63 t33.length co63)).setCell ⟨gb40, 4, none⟩ (.int .u32 t36)).setCell ⟨gb40, 5, none⟩ (.int .u32 t37)).setCell ⟨gb40, 6, none⟩ (.int .i64 t38)).setCell ⟨gb40, 7, none⟩ (.int .u32 t39)) w.heap.size (fun k_ => some k_ ≠ (.slice Ao33 t8.length co33 : Value).ownBlock ∧ some k_ ≠ (.slice Ao39 t16.length co39 : Value).ownBlock ∧ some k_ ≠ (.slice Ao62 t30.length co62 : Value).ownBlock ∧ some k_ ≠ (.slice Ao63 t33.length co63 : Value).ownBlock) (.slice Ao41 t19.length co41) t19) := ⟨moR (rW HO21)⟩
       have n4_ : Aside0 (Kd.R (Kd.int .u32) 22 ((((((((w56.setCell ⟨gb40, 0, none⟩ (.int .u32 t28)).setCell ⟨gb40, 1, none⟩ (.int .i64 t29)).setCell ⟨gb40, 2, none⟩ (.slice Ao62 t30.length co62)).setCell ⟨gb40, 3, none⟩ (.slice Ao63 t33.length co63)).setCell ⟨gb40, 4, none⟩ (.int .u32 t36)).setCell ⟨gb40, 5, none⟩ (.int .u32 t37)).setCell ⟨gb40, 6, none⟩ (.int .i64 t38)).setCell ⟨gb40, 7, none⟩ (.int .u32 t39)) w.heap.size (fun k_ => some k_ ≠ (.slice Ao33 t8.length co33 : Value).ownBlock ∧ some k_ ≠ (.slice Ao39 t16.length co39 : Value).ownBlock ∧ some k_ ≠ (.slice Ao41 t19.length co41 : Value).ownBlock ∧ some k_ ≠ (.slice Ao63 t33.length co63 : Value).ownBlock) (.slice Ao62 t30.length co62) t30) := ⟨moR (rW HO32)⟩
       have n5_ : Aside0 (Kd.R (Kd.int .u32) 22 ((((((((w56.setCell ⟨gb40, 0, none⟩ (.int .u32 t28)).setCell ⟨gb40, 1, none⟩ (.int .i64 t29)).setCell ⟨gb40, 2, none⟩ (.slice Ao62 t30.length co62)).setCell ⟨gb40, 3, none⟩ (.slice Ao63 t33.length co63)).setCell ⟨gb40, 4, none⟩ (.int .u32 t36)).setCell ⟨gb40, 5, none⟩ (.int .u32 t37)).setCell ⟨gb40, 6, none⟩ (.int .i64 t38)).setCell ⟨gb40, 7, none⟩ (.int .u32 t39)) w.heap.size (fun k_ => some k_ ≠ (.slice Ao33 t8.length co33 : Value).ownBlock ∧ some k_ ≠ (.slice Ao39 t16.length co39 : Value).ownBlock ∧ some k_ ≠ (.slice Ao41 t19.length co41 : Value).ownBlock ∧ some k_ ≠ (.slice Ao62 t30.length co62 : Value).ownBlock) (.slice Ao63 t33.length co63) t33) := ⟨moR (rW HO35)⟩
       have n6_ : Aside0 (((((((((w56.setCell ⟨gb40, 0, none⟩ (.int .u32 t28)).setCell ⟨gb40, 1, none⟩ (.int .i64 t29)).setCell ⟨gb40, 2, none⟩ (.slice Ao62 t30.length co62)).setCell ⟨gb40, 3, none⟩ (.slice Ao63 t33.length co63)).setCell ⟨gb40, 4, none⟩ (.int .u32 t36)).setCell ⟨gb40, 5, none⟩ (.int .u32 t37)).setCell ⟨gb40, 6, none⟩ (.int .i64 t38)).setCell ⟨gb40, 7, none⟩ (.int .u32 t39)).heap[gb1]? = some (.cells #[.int .i64 a0_0, .int .u32 a0_1, .slice A0_2 l0_2.length c0_2, .slice A0_3 l0_3.length c0_3] 26 (0, 0))) := ⟨by (with_reducible repeat (first | refine blk_drewN ?_ _ | refine blk_drew ?_ | refine blk_alloc ?_ _)); refine blk_far ?_ NB1_40.out _; (with_reducible repeat (first | refine blk_drewN ?_ _ | refine blk_drew ?_ | refine blk_alloc ?_ _)); refine blk_far ?_ NB1_40.out _; (with_reducible repeat (first | refine blk_drewN ?_ _ | refine blk_drew ?_ | refine blk_alloc ?_ _)); refine blk_far ?_ NB1_40.out _; (with_reducible repeat (first | refine blk_drewN ?_ _ | refine blk_drew ?_ | refine blk_alloc ?_ _)); refine blk_far ?_ NB1_40.out _; (with_reducible repeat (first | refine blk_drewN ?_ _ | refine blk_drew ?_ | refine blk_alloc ?_ _)); refine blk_far ?_ NB1_40.out _; (with_reducible repeat (first | refine blk_drewN ?_ _ | refine blk_drew ?_ | refine blk_alloc ?_ _)); refine blk_far ?_ NB1_40.out _; (with_reducible repeat (first | refine blk_drewN ?_ _ | refine blk_drew ?_ | refine blk_alloc ?_ _)); refine blk_far ?_ NB1_40.out _; (with_reducible repeat (first | refine blk_drewN ?_ _ | refine blk_drew ?_ | refine blk_alloc ?_ _)); refine blk_far ?_ NB1_40.out _; (with_reducible repeat (first | refine blk_drewN ?_ _ | refine blk_drew ?_ | refine blk_alloc ?_ _)); exact BK1.out⟩
       have n7_ : Aside0 (((((((((w56.setCell ⟨gb40, 0, none⟩ (.int .u32 t28)).setCell ⟨gb40, 1, none⟩ (.int .i64 t29)).setCell ⟨gb40, 2, none⟩ (.slice Ao62 t30.length co62)).setCell ⟨gb40, 3, none⟩ (.slice Ao63 t33.length co63)).setCell ⟨gb40, 4, none⟩ (.int .u32 t36)).setCell ⟨gb40, 5, none⟩ (.int .u32 t37)).setCell ⟨gb40, 6, none⟩ (.int .i64 t38)).setCell ⟨gb40, 7, none⟩ (.int .u32 t39)).heap[gb2]? = some (.cells #[.int .u32 a1_0, .int .i64 a1_1, .slice A1_2 l1_2.length c1_2, .slice A1_3 l1_3.length c1_3, .int .u32 a1_4, .int .u32 a1_5, .int .i64 a1_6, .int .u32 a1_7] 30 (0, 0))) := ⟨by (with_reducible repeat (first | refine blk_drewN ?_ _ | refine blk_drew ?_ | refine blk_alloc ?_ _)); refine blk_far ?_ NB2_40.out _; (with_reducible repeat (first | refine blk_drewN ?_ _ | refine blk_drew ?_ | refine blk_alloc ?_ _)); refine blk_far ?_ NB2_40.out _; (with_reducible repeat (first | refine blk_drewN ?_ _ | refine blk_drew ?_ | refine blk_alloc ?_ _)); refine blk_far ?_ NB2_40.out _; (with_reducible repeat (first | refine blk_drewN ?_ _ | refine blk_drew ?_ | refine blk_alloc ?_ _)); refine blk_far ?_ NB2_40.out _; (with_reducible repeat (first | refine blk_drewN ?_ _ | refine blk_drew ?_ | refine blk_alloc ?_ _)); refine blk_far ?_ NB2_40.out _; (with_reducible repeat (first | refine blk_drewN ?_ _ | refine blk_drew ?_ | refine blk_alloc ?_ _)); refine blk_far ?_ NB2_40.out _; (with_reducible repeat (first | refine blk_drewN ?_ _ | refine blk_drew ?_ | refine blk_alloc ?_ _)); refine blk_far ?_ NB2_40.out _; (with_reducible repeat (first | refine blk_drewN ?_ _ | refine blk_drew ?_ | refine blk_alloc ?_ _)); refine blk_far ?_ NB2_40.out _; (with_reducible repeat (first | refine blk_drewN ?_ _ | refine blk_drew ?_ | refine blk_alloc ?_ _)); exact BK2.out⟩
       have n8_ : Aside0 (((((((((w56.setCell ⟨gb40, 0, none⟩ (.int .u32 t28)).setCell ⟨gb40, 1, none⟩ (.int .i64 t29)).setCell ⟨gb40, 2, none⟩ (.slice Ao62 t30.length co62)).setCell ⟨gb40, 3, none⟩ (.slice Ao63 t33.length co63)).setCell ⟨gb40, 4, none⟩ (.int .u32 t36)).setCell ⟨gb40, 5, none⟩ (.int .u32 t37)).setCell ⟨gb40, 6, none⟩ (.int .i64 t38)).setCell ⟨gb40, 7, none⟩ (.int .u32 t39)).heap[gb26]? = some (.cells #[.int .i64 t6, .int .u32 t7, .slice Ao33 t8.length co33, .slice Ao35 t11.length co35] 26 (0, 0))) := ⟨by (with_reducible repeat (first | refine blk_drewN ?_ _ | refine blk_drew ?_ | refine blk_alloc ?_ _)); refine blk_far ?_ NB26_40.out _; (with_reducible repeat (first | refine blk_drewN ?_ _ | refine blk_drew ?_ | refine blk_alloc ?_ _)); refine blk_far ?_ NB26_40.out _; (with_reducible repeat (first | refine blk_drewN ?_ _ | refine blk_drew ?_ | refine blk_alloc ?_ _)); refine blk_far ?_ NB26_40.out _; (with_reducible repeat (first | refine blk_drewN ?_ _ | refine blk_drew ?_ | refine blk_alloc ?_ _)); refine blk_far ?_ NB26_40.out _; (with_reducible repeat (first | refine blk_drewN ?_ _ | refine blk_drew ?_ | refine blk_alloc ?_ _)); refine blk_far ?_ NB26_40.out _; (with_reducible repeat (first | refine blk_drewN ?_ _ | refine blk_drew ?_ | refine blk_alloc ?_ _)); refine blk_far ?_ NB26_40.out _; (with_reducible repeat (first | refine blk_drewN ?_ _ | refine blk_drew ?_ | refine blk_alloc ?_ _)); refine blk_far ?_ NB26_40.out _; (with_reducible repeat (first | refine blk_drewN ?_ _ | refine blk_drew ?_ | refine blk_alloc ?_ _)); refine blk_far ?_ NB26_40.out _; (with_reducible repeat (first | refine blk_drewN ?_ _ | refine blk_drew ?_ | refine blk_alloc ?_ _)); exact BK26.out⟩
       have n9_ : Aside0 (((((((((w56.setCell ⟨gb40, 0, none⟩ (.int .u32 t28)).setCell ⟨gb40, 1, none⟩ (.int .i64 t29)).setCell ⟨gb40, 2, none⟩ (.slice Ao62 t30.length co62)).setCell ⟨gb40, 3, none⟩ (.slice Ao63 t33.length co63)).setCell ⟨gb40, 4, none⟩ (.int .u32 t36)).setCell ⟨gb40, 5, none⟩ (.int .u32 t37)).setCell ⟨gb40, 6, none⟩ (.int .i64 t38)).setCell ⟨gb40, 7, none⟩ (.int .u32 t39)).heap[gb27]? = some (.cells #[.int .u32 t14, .int .i64 t15, .slice Ao39 t16.length co39, .slice Ao41 t19.length co41, .int .u32 t22, .int .u32 t23, .int .i64 t24, .int .u32 t25] 30 (0, 0))) := ⟨by (with_reducible repeat (first | refine blk_drewN ?_ _ | refine blk_drew ?_ | refine blk_alloc ?_ _)); refine blk_far ?_ NB27_40.out _; (with_reducible repeat (first | refine blk_drewN ?_ _ | refine blk_drew ?_ | refine blk_alloc ?_ _)); refine blk_far ?_ NB27_40.out _; (with_reducible repeat (first | refine blk_drewN ?_ _ | refine blk_drew ?_ | refine blk_alloc ?_ _)); refine blk_far ?_ NB27_40.out _; (with_reducible repeat (first | refine blk_drewN ?_ _ | refine blk_drew ?_ | refine blk_alloc ?_ _)); refine blk_far ?_ NB27_40.out _; (with_reducible repeat (first | refine blk_drewN ?_ _ | refine blk_drew ?_ | refine blk_alloc ?_ _)); refine blk_far ?_ NB27_40.out _; (with_reducible repeat (first | refine blk_drewN ?_ _ | refine blk_drew ?_ | refine blk_alloc ?_ _)); refine blk_far ?_ NB27_40.out _; (with_reducible repeat (first | refine blk_drewN ?_ _ | refine blk_drew ?_ | refine blk_alloc ?_ _)); refine blk_far ?_ NB27_40.out _; (with_reducible repeat (first | refine blk_drewN ?_ _ | refine blk_drew ?_ | refine blk_alloc ?_ _)); refine blk_far ?_ NB27_40.out _; (with_reducible repeat (first | refine blk_drewN ?_ _ | refine blk_drew ?_ | refine blk_alloc ?_ _)); exact BK27.out⟩
       have n10_ : Aside0 (((((((((w56.setCell ⟨gb40, 0, none⟩ (.int .u32 t28)).setCell ⟨gb40, 1, none⟩ (.int .i64 t29)).setCell ⟨gb40, 2, none⟩ (.slice Ao62 t30.length co62)).setCell ⟨gb40, 3, none⟩ (.slice Ao63 t33.length co63)).setCell ⟨gb40, 4, none⟩ (.int .u32 t36)).setCell ⟨gb40, 5, none⟩ (.int .u32 t37)).setCell ⟨gb40, 6, none⟩ (.int .i64 t38)).setCell ⟨gb40, 7, none⟩ (.int .u32 t39)).heap[gb40]? = some (.cells #[.int .u32 t28, .int .i64 t29, .slice Ao62 t30.length co62, .slice Ao63 t33.length co63, .int .u32 t36, .int .u32 t37, .int .i64 t38, .int .u32 t39] 30 (0, 0))) := ⟨by (with_reducible repeat (first | refine blk_drewN ?_ _ | refine blk_drew ?_ | refine blk_alloc ?_ _)); refine blk_put (cs := #[.int .u32 t28, .int .i64 t29, .slice Ao62 t30.length co62, .slice Ao63 t33.length co63, .int .u32 t36, .int .u32 t37, .int .i64 t38, .int .u32 0]) ?_ 7 _ rfl; (with_reducible repeat (first | refine blk_drewN ?_ _ | refine blk_drew ?_ | refine blk_alloc ?_ _)); refine blk_put (cs := #[.int .u32 t28, .int .i64 t29, .slice Ao62 t30.length co62, .slice Ao63 t33.length co63, .int .u32 t36, .int .u32 t37, .int .i64 0, .int .u32 0]) ?_ 6 _ rfl; (with_reducible repeat (first | refine blk_drewN ?_ _ | refine blk_drew ?_ | refine blk_alloc ?_ _)); refine blk_put (cs := #[.int .u32 t28, .int .i64 t29, .slice Ao62 t30.length co62, .slice Ao63 t33.length co63, .int .u32 t36, .int .u32 0, .int .i64 0, .int .u32 0]) ?_ 5 _ rfl; (with_reducible repeat (first | refine blk_drewN ?_ _ | refine blk_drew ?_ | refine blk_alloc ?_ _)); refine blk_put (cs := #[.int .u32 t28, .int .i64 t29, .slice Ao62 t30.length co62, .slice Ao63 t33.length co63, .int .u32 0, .int .u32 0, .int .i64 0, .int .u32 0]) ?_ 4 _ rfl; (with_reducible repeat (first | refine blk_drewN ?_ _ | refine blk_drew ?_ | refine blk_alloc ?_ _)); refine blk_put (cs := #[.int .u32 t28, .int .i64 t29, .slice Ao62 t30.length co62, .slice none 0 0, .int .u32 0, .int .u32 0, .int .i64 0, .int .u32 0]) ?_ 3 _ rfl; (with_reducible repeat (first | refine blk_drewN ?_ _ | refine blk_drew ?_ | refine blk_alloc ?_ _)); refine blk_put (cs := #[.int .u32 t28, .int .i64 t29, .slice none 0 0, .slice none 0 0, .int .u32 0, .int .u32 0, .int .i64 0, .int .u32 0]) ?_ 2 _ rfl; (with_reducible repeat (first | refine blk_drewN ?_ _ | refine blk_drew ?_ | refine blk_alloc ?_ _)); refine blk_put (cs := #[.int .u32 t28, .int .i64 0, .slice none 0 0, .slice none 0 0, .int .u32 0, .int .u32 0, .int .i64 0, .int .u32 0]) ?_ 1 _ rfl; (with_reducible repeat (first | refine blk_drewN ?_ _ | refine blk_drew ?_ | refine blk_alloc ?_ _)); refine blk_put (cs := #[.int .u32 0, .int .i64 0, .slice none 0 0, .slice none 0 0, .int .u32 0, .int .u32 0, .int .i64 0, .int .u32 0]) ?_ 0 _ rfl; (with_reducible repeat (first | refine blk_drewN ?_ _ | refine blk_drew ?_ | refine blk_alloc ?_ _)); exact BK40.out⟩
       have n11_ : Aside0 (Below w.heap.size w ((((((((w56.setCell ⟨gb40, 0, none⟩ (.int .u32 t28)).setCell ⟨gb40, 1, none⟩ (.int .i64 t29)).setCell ⟨gb40, 2, none⟩ (.slice Ao62 t30.length co62)).setCell ⟨gb40, 3, none⟩ (.slice Ao63 t33.length co63)).setCell ⟨gb40, 4, none⟩ (.int .u32 t36)).setCell ⟨gb40, 5, none⟩ (.int .u32 t37)).setCell ⟨gb40, 6, none⟩ (.int .i64 t38)).setCell ⟨gb40, 7, none⟩ (.int .u32 t39))) := ⟨hbW HB⟩
       (try clear HO10)
       (try clear HO13)
       (try clear HO18)
       (try clear HO21)
       (try clear HO32)
       (try clear HO35)
       (try clear BK1)
       (try clear BK2)
       (try clear BK26)
       (try clear BK27)
       (try clear BK40)
       (try clear HB)
       generalize ((((((((w56.setCell ⟨gb40, 0, none⟩ (.int .u32 t28)).setCell ⟨gb40, 1, none⟩ (.int .i64 t29)).setCell ⟨gb40, 2, none⟩ (.slice Ao62 t30.length co62)).setCell ⟨gb40, 3, none⟩ (.slice Ao63 t33.length co63)).setCell ⟨gb40, 4, none⟩ (.int .u32 t36)).setCell ⟨gb40, 5, none⟩ (.int .u32 t37)).setCell ⟨gb40, 6, none⟩ (.int .i64 t38)).setCell ⟨gb40, 7, none⟩ (.int .u32 t39)) = w73 at n0_ n1_ n2_ n3_ n4_ n5_ n6_ n7_ n8_ n9_ n10_ n11_ ⊢
       have HO10 := n0_
       have HO13 := n1_
       have HO18 := n2_
       have HO21 := n3_
       have HO32 := n4_
       have HO35 := n5_
       have BK1 := n6_
       have BK2 := n7_
       have BK26 := n8_
       have BK27 := n9_
       have BK40 := n10_
       have HB := n11_
       clear n0_ n1_ n2_ n3_ n4_ n5_ n6_ n7_ n8_ n9_ n10_ n11_
       replace HO10 := Aside0.mk (Kd.R_drew HO10.out)
       replace HO13 := Aside0.mk (Kd.S_drew HO13.out)
       replace HO18 := Aside0.mk (Kd.R_drew HO18.out)
       replace HO21 := Aside0.mk (Kd.R_drew HO21.out)
       replace HO32 := Aside0.mk (Kd.R_drew HO32.out)
       replace HO35 := Aside0.mk (Kd.R_drew HO35.out)
       replace BK1 := Aside0.mk (blk_drew BK1.out)
       replace BK2 := Aside0.mk (blk_drew BK2.out)
       replace BK26 := Aside0.mk (blk_drew BK26.out)
       replace BK27 := Aside0.mk (blk_drew BK27.out)
       replace BK40 := Aside0.mk (blk_drew BK40.out)
       replace HB := Aside0.mk (below_drew1 HB.out)
       refine start_ (n := 13) (S := fun w' => w'.cell? ⟨gb26, 0, none⟩ = some (.int .i64 t6) ∧ w'.cell? ⟨gb26, 1, none⟩ = some (.int .u32 t7) ∧ w'.cell? ⟨gb26, 2, none⟩ = some (.slice Ao33 t8.length co33) ∧ w'.cell? ⟨gb26, 3, none⟩ = some (.slice Ao35 t11.length co35) ∧ w'.cell? ⟨gb1, 0, none⟩ = some (.int .i64 a0_0) ∧ w'.cell? ⟨gb1, 1, none⟩ = some (.int .u32 a0_1) ∧ w'.cell? ⟨gb1, 2, none⟩ = some (.slice A0_2 l0_2.length c0_2) ∧ w'.cell? ⟨gb1, 3, none⟩ = some (.slice A0_3 l0_3.length c0_3) ∧ w'.cell? ⟨gb40, 0, none⟩ = some (.int .u32 t28) ∧ w'.cell? ⟨gb40, 1, none⟩ = some (.int .i64 t29) ∧ w'.cell? ⟨gb40, 2, none⟩ = some (.slice Ao62 t30.length co62) ∧ w'.cell? ⟨gb40, 3, none⟩ = some (.slice Ao63 t33.length co63) ∧ w'.cell? ⟨gb40, 4, none⟩ = some (.int .u32 t36) ∧ w'.cell? ⟨gb40, 5, none⟩ = some (.int .u32 t37) ∧ w'.cell? ⟨gb40, 6, none⟩ = some (.int .i64 t38) ∧ w'.cell? ⟨gb40, 7, none⟩ = some (.int .u32 t39) ∧ w'.cell? ⟨gb2, 0, none⟩ = some (.int .u32 a1_0) ∧ w'.cell? ⟨gb2, 1, none⟩ = some (.int .i64 a1_1) ∧ w'.cell? ⟨gb2, 2, none⟩ = some (.slice A1_2 l1_2.length c1_2) ∧ w'.cell? ⟨gb2, 3, none⟩ = some (.slice A1_3 l1_3.length c1_3) ∧ w'.cell? ⟨gb2, 4, none⟩ = some (.int .u32 a1_4) ∧ w'.cell? ⟨gb2, 5, none⟩ = some (.int .u32 a1_5) ∧ w'.cell? ⟨gb2, 6, none⟩ = some (.int .i64 a1_6) ∧ w'.cell? ⟨gb2, 7, none⟩ = some (.int .u32 a1_7)) (ds := []) #[false, false, false, false, false, false, false, false, false, false, false, false, false] (by kernel_rfl) rfl rfl (bk4 BK26 (bk4 BK1 (bk8 BK40 (bl8 BK2)))) (fun hHeld => ?_); refine with_tabW q29z.tab7 q29z.bits7 (fun HT_ HW_ => ?_)
       generalize w73.drew = w74 at HO10 HO13 HO18 HO21 HO32 HO35 BK1 BK2 BK26 BK27 BK40 HB hHeld ⊢
       refine take_ (i := 0) (N := some 26) (v := ?_) (a' := ?_) #[true, false, false, false, false, false, false, false, false, false, false, false, false] rfl rfl (take_ofW HT_.out HW_.out (by kernel_rfl)) (fun _ _ _ h => h) (Or.inl ⟨by rfl, ?_⟩) hHeld ?_ ?_
       rotate_left
       ·
        rintro w' ⟨s0, s1, s2, s3, s4, s5, s6, s7, s8, s9, s10, s11, s12, s13, s14, s15, s16, s17, s18, s19, s20, s21, s22, s23⟩
        go_simp
        with_reducible rfl
       rotate_left
       ·
        simp only [Act.put, List.setIfInBounds_toArray, List.set_cons_zero, List.set_cons_succ, i64_w, i32_w, IntKind.wrap_u32]
        rfl
       refine take_ (i := 2) (N := some 28) (v := ?_) (a' := ?_) #[true, false, true, false, false, false, false, false, false, false, false, false, false] rfl rfl (take_ofW HT_.out HW_.out (by kernel_rfl)) (fun _ _ _ h => h) (Or.inl ⟨by rfl, ?_⟩) hHeld ?_ ?_
       rotate_left
       ·
        rintro w' ⟨s0, s1, s2, s3, s4, s5, s6, s7, s8, s9, s10, s11, s12, s13, s14, s15, s16, s17, s18, s19, s20, s21, s22, s23⟩
        go_simp
        with_reducible rfl
       rotate_left
       ·
        simp only [Act.put, List.setIfInBounds_toArray, List.set_cons_zero, List.set_cons_succ, i64_w, i32_w, IntKind.wrap_u32]
        rfl
       refine one_ (i := 1) (N := some 27) #[true, true, true, false, false, false, false, false, false, false, false, false, false] rfl rfl (one_of HT_.out (by kernel_rfl)) (by decide) (fun K hK => ?_)
       refine goes_ Try.func14 (by kernel_rfl) rfl #[.agg #[.int .i64 t6, .int .u32 t7, .slice Ao33 t8.length co33, .slice Ao35 t11.length co35]] (by rfl) rfl rfl (by (try simp only [List.map_toArray, List.map_cons, List.map_nil]); first | done | rfl | (simp only [List.length_drop, List.length_take]; rfl)) ?_
       with_reducible refine (q7z.calls kj4 t6 t7 _ _ t8 _ _ t11 t41 _ ?side1 ?side2 ?side3 ?side4 A64.out).mono ?_
       (case side1 => repeat (first | exact (Kd.R_reads' HO10.out).2.2 | (with_reducible refine Kd.C_alloc ?_ _) | (with_reducible refine Kd.C_drewN ?_ _) | (with_reducible refine Kd.C_drew ?_)))
       (case side2 => exact (Kd.R_reads' HO10.out).2.1)
       (case side3 => repeat (first | exact (Kd.S_reads' HO13.out).2.2 | (with_reducible refine Kd.C_alloc ?_ _) | (with_reducible refine Kd.C_drewN ?_ _) | (with_reducible refine Kd.C_drew ?_)))
       (case side4 => exact (Kd.S_reads' HO13.out).2.1)
       rintro e w75 ⟨rfl, hb⟩
       refine ⟨_, rfl, ?_⟩
       replace HO10 := Aside0.mk (Kd.R_below (rW HO10) hb)
       replace HO13 := Aside0.mk (Kd.S_below (by (with_reducible repeat (first | apply Kd.S_alloc | apply Kd.S_drewN | apply Kd.S_drew)); exact HO13.out) hb)
       replace HO18 := Aside0.mk (Kd.R_below (rW HO18) hb)
       replace HO21 := Aside0.mk (Kd.R_below (rW HO21) hb)
       replace HO32 := Aside0.mk (Kd.R_below (rW HO32) hb)
       replace HO35 := Aside0.mk (Kd.R_below (rW HO35) hb)
       replace BK1 := bkB BK1 hb
       replace BK2 := bkB BK2 hb
       replace BK26 := bkB BK26 hb
       replace BK27 := bkB BK27 hb
       replace BK40 := bkB BK40 hb
       replace HB := hbS HB hb
       (try clear hb)
       refine hK.out _ _ (bk4 BK26 (bk4 BK1 (bk8 BK40 (bl8 BK2)))) (fun hHeld => ?_)
       clear hK K
       refine norm_ (a' := ?_) ?_ ?_
       rotate_left
       ·
        show Act.put _ (some 27) _ = _
        simp only [Act.put, List.setIfInBounds_toArray, List.set_cons_zero, List.set_cons_succ, i64_w, i32_w, IntKind.wrap_u32]
        rfl
       refine one_ (i := 3) (N := some 29) #[true, true, true, true, false, false, false, false, false, false, false, false, false] rfl rfl (one_of HT_.out (by kernel_rfl)) (by decide) (fun K hK => ?_)
       refine goes_ Try.func15 (by kernel_rfl) rfl #[.agg #[.int .i64 a0_0, .int .u32 a0_1, .slice A0_2 l0_2.length c0_2, .slice A0_3 l0_3.length c0_3]] (by rfl) rfl rfl (by (try simp only [List.map_toArray, List.map_cons, List.map_nil]); first | done | rfl | (simp only [List.length_drop, List.length_take]; rfl)) ?_
       with_reducible refine (q13z.calls kj4 a0_0 a0_1 _ _ l0_2 _ _ l0_3 t42 _ ?side1 ?side2 ?side3 ?side4 A65.out).mono ?_
       (case side1 => repeat (first | exact (Kd.C_below HR0_2.out HB.out) | (with_reducible refine Kd.C_alloc ?_ _) | (with_reducible refine Kd.C_drewN ?_ _) | (with_reducible refine Kd.C_drew ?_)))
       (case side2 => exact HC0_2.out)
       (case side3 => repeat (first | exact (Kd.C_below HR0_3.out HB.out) | (with_reducible refine Kd.C_alloc ?_ _) | (with_reducible refine Kd.C_drewN ?_ _) | (with_reducible refine Kd.C_drew ?_)))
       (case side4 => exact HC0_3.out)
       rintro e w76 ⟨rfl, hb⟩
       refine ⟨_, rfl, ?_⟩
       replace HO10 := Aside0.mk (Kd.R_below (rW HO10) hb)
       replace HO13 := Aside0.mk (Kd.S_below (by (with_reducible repeat (first | apply Kd.S_alloc | apply Kd.S_drewN | apply Kd.S_drew)); exact HO13.out) hb)
       replace HO18 := Aside0.mk (Kd.R_below (rW HO18) hb)
       replace HO21 := Aside0.mk (Kd.R_below (rW HO21) hb)
       replace HO32 := Aside0.mk (Kd.R_below (rW HO32) hb)
       replace HO35 := Aside0.mk (Kd.R_below (rW HO35) hb)
       replace BK1 := bkB BK1 hb
       replace BK2 := bkB BK2 hb
       replace BK26 := bkB BK26 hb
       replace BK27 := bkB BK27 hb
       replace BK40 := bkB BK40 hb
       replace HB := hbS HB hb
       (try clear hb)
       refine hK.out _ _ (bk4 BK26 (bk4 BK1 (bk8 BK40 (bl8 BK2)))) (fun hHeld => ?_)
       clear hK K
       refine norm_ (a' := ?_) ?_ ?_
       rotate_left
       ·
        show Act.put _ (some 29) _ = _
        simp only [Act.put, List.setIfInBounds_toArray, List.set_cons_zero, List.set_cons_succ, i64_w, i32_w, IntKind.wrap_u32]
        rfl
       refine pure_ (i := 4) (N := some 30) (v := ?_) (a' := ?_) #[true, true, true, true, true, false, false, false, false, false, false, false, false] rfl rfl (any_of HT_.out (by kernel_rfl)) (fun _ _ _ h => h) (Or.inl ⟨by rfl, ?_⟩) ?_ ?_
       rotate_left
       ·
        intro w'
        go_simp
        with_reducible rfl
       rotate_left
       ·
        simp only [Act.put, List.setIfInBounds_toArray, List.set_cons_zero, List.set_cons_succ, i64_w, i32_w, IntKind.wrap_u32]
        rfl
       refine pure_ (i := 5) (N := some 31) (v := ?_) (a' := ?_) #[true, true, true, true, true, true, false, false, false, false, false, false, false] rfl rfl (any_of HT_.out (by kernel_rfl)) (fun _ _ _ h => h) (Or.inl ⟨by rfl, ?_⟩) ?_ ?_
       rotate_left
       ·
        intro w'
        go_simp
        with_reducible rfl
       rotate_left
       ·
        simp only [Act.put, List.setIfInBounds_toArray, List.set_cons_zero, List.set_cons_succ, i64_w, i32_w, IntKind.wrap_u32]
        rfl
       refine take_ (i := 6) (N := some 32) (v := ?_) (a' := ?_) #[true, true, true, true, true, true, true, false, false, false, false, false, false] rfl rfl (take_ofW HT_.out HW_.out (by kernel_rfl)) (fun _ _ _ h => h) (Or.inl ⟨by rfl, ?_⟩) hHeld ?_ ?_
       rotate_left
       ·
        rintro w' ⟨s0, s1, s2, s3, s4, s5, s6, s7, s8, s9, s10, s11, s12, s13, s14, s15, s16, s17, s18, s19, s20, s21, s22, s23⟩
        go_simp
        with_reducible rfl
       rotate_left
       ·
        simp only [Act.put, List.setIfInBounds_toArray, List.set_cons_zero, List.set_cons_succ, i64_w, i32_w, IntKind.wrap_u32]
        rfl
       refine take_ (i := 7) (N := some 33) (v := ?_) (a' := ?_) #[true, true, true, true, true, true, true, true, false, false, false, false, false] rfl rfl (take_ofW HT_.out HW_.out (by kernel_rfl)) (fun _ _ _ h => h) (Or.inl ⟨by rfl, ?_⟩) hHeld ?_ ?_
       rotate_left
       ·
        rintro w' ⟨s0, s1, s2, s3, s4, s5, s6, s7, s8, s9, s10, s11, s12, s13, s14, s15, s16, s17, s18, s19, s20, s21, s22, s23⟩
        go_simp
        with_reducible rfl
       rotate_left
       ·
        simp only [Act.put, List.setIfInBounds_toArray, List.set_cons_zero, List.set_cons_succ, i64_w, i32_w, IntKind.wrap_u32]
        rfl
       refine take_ (i := 8) (N := some 34) (v := ?_) (a' := ?_) #[true, true, true, true, true, true, true, true, true, false, false, false, false] rfl rfl (take_ofW HT_.out HW_.out (by kernel_rfl)) (fun _ _ _ h => h) (Or.inl ⟨by rfl, ?_⟩) hHeld ?_ ?_
       rotate_left
       ·
        rintro w' ⟨s0, s1, s2, s3, s4, s5, s6, s7, s8, s9, s10, s11, s12, s13, s14, s15, s16, s17, s18, s19, s20, s21, s22, s23⟩
        go_simp
        with_reducible rfl
       rotate_left
       ·
        simp only [Act.put, List.setIfInBounds_toArray, List.set_cons_zero, List.set_cons_succ, i64_w, i32_w, IntKind.wrap_u32]
        rfl
       refine one_ (i := 9) (N := some 35) #[true, true, true, true, true, true, true, true, true, true, false, false, false] rfl rfl (one_of HT_.out (by kernel_rfl)) (by decide) (fun K hK => ?_)
       refine goes_ Try.func17 (by kernel_rfl) rfl #[.agg #[.int .i64 a0_0, .int .u32 a0_1, .slice A0_2 l0_2.length c0_2, .slice A0_3 l0_3.length c0_3], .agg #[.int .u32 a1_0, .int .i64 a1_1, .slice A1_2 l1_2.length c1_2, .slice A1_3 l1_3.length c1_3, .int .u32 a1_4, .int .u32 a1_5, .int .i64 a1_6, .int .u32 a1_7]] (by rfl) rfl rfl (by (try simp only [List.map_toArray, List.map_cons, List.map_nil]); first | done | rfl | (simp only [List.length_drop, List.length_take]; rfl)) ?_
       with_reducible refine (q21z.calls kj4 a0_0 a0_1 _ _ l0_2 _ _ l0_3 a1_0 a1_1 _ _ l1_2 _ _ l1_3 a1_4 a1_5 a1_6 a1_7 t43 t44 t45 t48 t51 t52 t53 t54 _ ?side1 ?side2 ?side3 ?side4 ?side5 ?side6 ?side7 ?side8 A71.out).mono ?_
       (case side1 => repeat (first | exact (Kd.C_below HR0_2.out HB.out) | (with_reducible refine Kd.C_alloc ?_ _) | (with_reducible refine Kd.C_drewN ?_ _) | (with_reducible refine Kd.C_drew ?_)))
       (case side2 => exact HC0_2.out)
       (case side3 => repeat (first | exact (Kd.C_below HR0_3.out HB.out) | (with_reducible refine Kd.C_alloc ?_ _) | (with_reducible refine Kd.C_drewN ?_ _) | (with_reducible refine Kd.C_drew ?_)))
       (case side4 => exact HC0_3.out)
       (case side5 => repeat (first | exact (Kd.C_below HR1_2.out HB.out) | (with_reducible refine Kd.C_alloc ?_ _) | (with_reducible refine Kd.C_drewN ?_ _) | (with_reducible refine Kd.C_drew ?_)))
       (case side6 => exact HC1_2.out)
       (case side7 => repeat (first | exact (Kd.C_below HR1_3.out HB.out) | (with_reducible refine Kd.C_alloc ?_ _) | (with_reducible refine Kd.C_drewN ?_ _) | (with_reducible refine Kd.C_drew ?_)))
       (case side8 => exact HC1_3.out)
       rintro e w77 ⟨v46, v49, rfl, ho0, ho1, hb⟩
       refine ⟨_, rfl, ?_⟩
       have HO47 := Aside0.mk (Kd.R_lower (Kd.R_new' (Kd.R_new' (Kd.R_new' (Kd.R_new' (Kd.R_new' ho0 (Kd.R_lt (rW HO10))) (Kd.R_lt (rW HO18))) (Kd.R_lt (rW HO21))) (Kd.R_lt (rW HO32))) (Kd.R_lt (rW HO35))) (below_size (hbW HB)))
       have HO50 := Aside0.mk (Kd.R_lower (Kd.R_new' (Kd.R_new' (Kd.R_new' (Kd.R_new' (Kd.R_new' ho1 (Kd.R_lt (rW HO10))) (Kd.R_lt (rW HO18))) (Kd.R_lt (rW HO21))) (Kd.R_lt (rW HO32))) (Kd.R_lt (rW HO35))) (below_size (hbW HB)))
       replace HO10 := Aside0.mk (Kd.R_mono (Kd.R_told (Kd.R_told (Kd.R_old (rW HO10) hb) (Kd.R_base ho0)) (Kd.R_base ho1)) (fun _ h_ => h_.1))
       replace HO13 := Aside0.mk (Kd.S_below (by (with_reducible repeat (first | apply Kd.S_alloc | apply Kd.S_drewN | apply Kd.S_drew)); exact HO13.out) hb)
       replace HO18 := Aside0.mk (Kd.R_mono (Kd.R_told (Kd.R_told (Kd.R_old (rW HO18) hb) (Kd.R_base ho0)) (Kd.R_base ho1)) (fun _ h_ => h_.1))
       replace HO21 := Aside0.mk (Kd.R_mono (Kd.R_told (Kd.R_told (Kd.R_old (rW HO21) hb) (Kd.R_base ho0)) (Kd.R_base ho1)) (fun _ h_ => h_.1))
       replace HO32 := Aside0.mk (Kd.R_mono (Kd.R_told (Kd.R_told (Kd.R_old (rW HO32) hb) (Kd.R_base ho0)) (Kd.R_base ho1)) (fun _ h_ => h_.1))
       replace HO35 := Aside0.mk (Kd.R_mono (Kd.R_told (Kd.R_told (Kd.R_old (rW HO35) hb) (Kd.R_base ho0)) (Kd.R_base ho1)) (fun _ h_ => h_.1))
       replace BK1 := bkB BK1 hb
       replace BK2 := bkB BK2 hb
       replace BK26 := bkB BK26 hb
       replace BK27 := bkB BK27 hb
       replace BK40 := bkB BK40 hb
       replace HB := hbS HB hb
       (try clear hb)
       (try clear ho0)
       (try clear ho1)
       obtain ⟨Ao78, co78, eo78⟩ := Kd.R_slice HO47.out
       (first | subst eo78 | (injection eo78 with f1_ f2_ f3_; have f4_ := f1_.symm; have f5_ := f3_.symm; clear f1_ f2_ f3_; subst f4_; subst f5_))
       obtain ⟨Ao79, co79, eo79⟩ := Kd.R_slice HO50.out
       (first | subst eo79 | (injection eo79 with f1_ f2_ f3_; have f4_ := f1_.symm; have f5_ := f3_.symm; clear f1_ f2_ f3_; subst f4_; subst f5_))
       refine hK.out _ _ (bk4 BK26 (bk4 BK1 (bk8 BK40 (bl8 BK2)))) (fun hHeld => ?_)
       clear hK K
       refine norm_ (a' := ?_) ?_ ?_
       rotate_left
       ·
        show Act.put _ (some 35) _ = _
        simp only [Act.put, List.setIfInBounds_toArray, List.set_cons_zero, List.set_cons_succ, i64_w, i32_w, IntKind.wrap_u32]
        rfl
       refine one_ (i := 10) (N := some 36) #[true, true, true, true, true, true, true, true, true, true, true, false, false] rfl rfl (one_of HT_.out (by kernel_rfl)) (by decide) (fun K hK => ?_)
       refine goes_ Try.func16 (by kernel_rfl) rfl #[.agg #[.int .u32 t28, .int .i64 t29, .slice Ao62 t30.length co62, .slice Ao63 t33.length co63, .int .u32 t36, .int .u32 t37, .int .i64 t38, .int .u32 t39], .agg #[.int .u32 t43, .int .i64 t44, .slice Ao78 t45.length co78, .slice Ao79 t48.length co79, .int .u32 t51, .int .u32 t52, .int .i64 t53, .int .u32 t54]] (by rfl) rfl rfl (by (try simp only [List.map_toArray, List.map_cons, List.map_nil]); first | done | rfl | (simp only [List.length_drop, List.length_take]; rfl)) ?_
       with_reducible refine (q16z.calls kj4 t28 t29 _ _ t30 _ _ t33 t36 t37 t38 t39 t43 t44 _ _ t45 _ _ t48 t51 t52 t53 t54 t55 _ ?side1 ?side2 ?side3 ?side4 ?side5 ?side6 ?side7 ?side8 A72.out).mono ?_
       (case side1 => repeat (first | exact (Kd.R_reads' HO32.out).2.2 | (with_reducible refine Kd.C_alloc ?_ _) | (with_reducible refine Kd.C_drewN ?_ _) | (with_reducible refine Kd.C_drew ?_)))
       (case side2 => exact (Kd.R_reads' HO32.out).2.1)
       (case side3 => repeat (first | exact (Kd.R_reads' HO35.out).2.2 | (with_reducible refine Kd.C_alloc ?_ _) | (with_reducible refine Kd.C_drewN ?_ _) | (with_reducible refine Kd.C_drew ?_)))
       (case side4 => exact (Kd.R_reads' HO35.out).2.1)
       (case side5 => repeat (first | exact (Kd.R_reads' HO47.out).2.2 | (with_reducible refine Kd.C_alloc ?_ _) | (with_reducible refine Kd.C_drewN ?_ _) | (with_reducible refine Kd.C_drew ?_)))
       (case side6 => exact (Kd.R_reads' HO47.out).2.1)
       (case side7 => repeat (first | exact (Kd.R_reads' HO50.out).2.2 | (with_reducible refine Kd.C_alloc ?_ _) | (with_reducible refine Kd.C_drewN ?_ _) | (with_reducible refine Kd.C_drew ?_)))
       (case side8 => exact (Kd.R_reads' HO50.out).2.1)
       rintro e w80 ⟨rfl, hb⟩
       refine ⟨_, rfl, ?_⟩
       replace HO10 := Aside0.mk (Kd.R_below (rW HO10) hb)
       replace HO13 := Aside0.mk (Kd.S_below (by (with_reducible repeat (first | apply Kd.S_alloc | apply Kd.S_drewN | apply Kd.S_drew)); exact HO13.out) hb)
       replace HO18 := Aside0.mk (Kd.R_below (rW HO18) hb)
       replace HO21 := Aside0.mk (Kd.R_below (rW HO21) hb)
       replace HO32 := Aside0.mk (Kd.R_below (rW HO32) hb)
       replace HO35 := Aside0.mk (Kd.R_below (rW HO35) hb)
       replace HO47 := Aside0.mk (Kd.R_below (rW HO47) hb)
       replace HO50 := Aside0.mk (Kd.R_below (rW HO50) hb)
       replace BK1 := bkB BK1 hb
       replace BK2 := bkB BK2 hb
       replace BK26 := bkB BK26 hb
       replace BK27 := bkB BK27 hb
       replace BK40 := bkB BK40 hb
       replace HB := hbS HB hb
       (try clear hb)
       refine hK.out _ _ (bk4 BK26 (bk4 BK1 (bk8 BK40 (bl8 BK2)))) (fun hHeld => ?_)
       clear hK K
       refine norm_ (a' := ?_) ?_ ?_
       rotate_left
       ·
        show Act.put _ (some 36) _ = _
        simp only [Act.put, List.setIfInBounds_toArray, List.set_cons_zero, List.set_cons_succ, i64_w, i32_w, IntKind.wrap_u32]
        rfl
       refine pure_ (i := 11) (N := some 37) (v := ?_) (a' := ?_) #[true, true, true, true, true, true, true, true, true, true, true, true, false] rfl rfl (any_of HT_.out (by kernel_rfl)) (fun _ _ _ h => h) (Or.inl ⟨by rfl, ?_⟩) ?_ ?_
       rotate_left
       ·
        intro w'
        go_simp
        with_reducible rfl
       rotate_left
       ·
        simp only [Act.put, List.setIfInBounds_toArray, List.set_cons_zero, List.set_cons_succ, i64_w, i32_w, IntKind.wrap_u32]
        rfl
       refine pure_ (i := 12) (N := some 38) (v := ?_) (a' := ?_) #[true, true, true, true, true, true, true, true, true, true, true, true, true] rfl rfl (any_of HT_.out (by kernel_rfl)) (fun _ _ _ h => h) (Or.inl ⟨by rfl, ?_⟩) ?_ ?_
       rotate_left
       ·
        intro w'
        go_simp
        with_reducible rfl
       rotate_left
       ·
        simp only [Act.put, List.setIfInBounds_toArray, List.set_cons_zero, List.set_cons_succ, i64_w, i32_w, IntKind.wrap_u32]
        rfl
       refine done_ (done_of HT_.out (by kernel_rfl)) ?_
       try go_wp2
       go_meet
       case rel => exact ⟨_, ((t55 != 0)), (by first | rfl | (simp; done) | (simp [*]; done)), H', ⟨by have := HJ4.out; first | omega | exact Nat.le_refl _⟩, ⟨by (with_reducible repeat (first | apply Kd.R_alloc | apply Kd.R_drewN | apply Kd.R_drew)); exact Kd.R_mono HO10.out (fun _ hk => ⟨hk.1.1.1, ⟨hk.1.1.2.1, ⟨hk.1.1.2.2.1, hk.1.1.2.2.2⟩⟩⟩)⟩, ⟨by (with_reducible repeat (first | apply Kd.S_alloc | apply Kd.S_drewN | apply Kd.S_drew)); exact HO13.out⟩, ⟨by (with_reducible repeat (first | apply Kd.R_alloc | apply Kd.R_drewN | apply Kd.R_drew)); exact Kd.R_mono HO18.out (fun _ hk => ⟨hk.1.1.1, ⟨hk.1.1.2.1, ⟨hk.1.1.2.2.1, hk.1.1.2.2.2⟩⟩⟩)⟩, ⟨by (with_reducible repeat (first | apply Kd.R_alloc | apply Kd.R_drewN | apply Kd.R_drew)); exact Kd.R_mono HO21.out (fun _ hk => ⟨hk.1.1.1, ⟨hk.1.1.2.1, ⟨hk.1.1.2.2.1, hk.1.1.2.2.2⟩⟩⟩)⟩, ⟨by (with_reducible repeat (first | apply Kd.R_alloc | apply Kd.R_drewN | apply Kd.R_drew)); exact Kd.R_mono HO32.out (fun _ hk => ⟨hk.1.1.1, ⟨hk.1.1.2.1, ⟨hk.1.1.2.2.1, hk.1.1.2.2.2⟩⟩⟩)⟩, ⟨by (with_reducible repeat (first | apply Kd.R_alloc | apply Kd.R_drewN | apply Kd.R_drew)); exact Kd.R_mono HO35.out (fun _ hk => ⟨hk.1.1.1, ⟨hk.1.1.2.1, ⟨hk.1.1.2.2.1, hk.1.1.2.2.2⟩⟩⟩)⟩, ⟨by (with_reducible repeat (first | refine blk_drewN ?_ _ | refine blk_drew ?_ | refine blk_alloc ?_ _)); exact BK1.out⟩, ⟨by (with_reducible repeat (first | refine blk_drewN ?_ _ | refine blk_drew ?_ | refine blk_alloc ?_ _)); exact BK2.out⟩, ⟨by (with_reducible repeat (first | refine blk_drewN ?_ _ | refine blk_drew ?_ | refine blk_alloc ?_ _)); exact BK26.out⟩, ⟨by (with_reducible repeat (first | refine blk_drewN ?_ _ | refine blk_drew ?_ | refine blk_alloc ?_ _)); exact BK27.out⟩, ⟨by (with_reducible repeat (first | refine blk_drewN ?_ _ | refine blk_drew ?_ | refine blk_alloc ?_ _)); exact BK40.out⟩, ⟨hbW HB⟩⟩
     case rest =>
      clear HC24
      try clear c1
      try clear p2
      try clear c6
      try clear c14
      try clear c15
      try clear c16
      try clear c17
      try clear c66
      try clear c66b0
      try clear c66b1
      try clear c66b2
      obtain ⟨kq, x38_23, rfl, HA, HJ23, HO_27002, HO_27003, HO_28002, HO_28003, HO_41002, HO_41003, BK1, BK2, BK26, BK27, BK40, HB⟩ := hcut
      cases kq with
      | zero => exact absurd HA.out (by simp [q29z.j1])
      | succ kj23 =>
       have H := HA.out
       clear HA
       simp only [q29z.j1] at H
       by_cases c81 : x38_23 = true
       ·
        subst c81
        have H1 : (some false) = some r := by rw [if_pos rfl] at H; exact H
        clear H
        have H := H1
        clear H1
        obtain rfl := Option.some.inj H
        go_wp2
        go_ret
        exact ⟨by first | rfl | (simp [errW_none, errW_some] <;> rfl) | (simp [*, errW_none, errW_some] <;> rfl), hbW HB⟩
       ·
        replace c81 := Bool.eq_false_iff.mpr c81
        subst c81
        have H1 : ((q24z.f kj23 t6 t7 t8 t11 a0_0 a0_1 l0_2 l0_3).bind fun t56 => (if t56 = true then ((q16z.f kj23 t14 t15 t16 t19 t22 t23 t24 t25 a1_0 a1_1 l1_2 l1_3 a1_4 a1_5 a1_6 a1_7).bind fun t57 => (some (t57 == 0))) else (some false))) = some r := by rw [if_neg (show ¬ (false = true) by decide)] at H; exact H
        clear H
        have H := H1
        clear H1
        replace H := Option.bind_eq_some_iff.mp H
        obtain ⟨t56, A820, H⟩ := H
        replace H : (if t56 = true then ((q16z.f kj23 t14 t15 t16 t19 t22 t23 t24 t25 a1_0 a1_1 l1_2 l1_3 a1_4 a1_5 a1_6 a1_7).bind fun t57 => (some (t57 == 0))) else (some false)) = some r := H
        have A82 := Aside0.mk A820
        clear A820
        have HH_ := Aside0.mk H
        clear H
        obtain ⟨hcy0, hcy1, hcy2, hcy3, hcy4, hcy5, hcy6, hcy7, -⟩ := bc8 BK40
        obtain ⟨wo, hwo⟩ : ∃ z, z = wc := ⟨_, rfl⟩
        subst hwo
        go_upto_block 0 with (fail)
        clear hcy0 hcy1 hcy2 hcy3 hcy4 hcy5 hcy6 hcy7
        go_cut [] (fun wd => Aside0 (∃ y_ : List Int, y_.length = t30.length ∧ Kd.R (Kd.int .u32) 22 wd w.heap.size (fun k_ => some k_ ≠ ((.slice Ao33 t8.length co33) : Value).ownBlock ∧ some k_ ≠ ((.slice Ao39 t16.length co39) : Value).ownBlock ∧ some k_ ≠ ((.slice Ao41 t19.length co41) : Value).ownBlock ∧ some k_ ≠ ((.slice Ao63 t33.length co63) : Value).ownBlock) (.slice Ao62 t30.length co62) y_) ∧ Aside0 (∃ y_ : List Int, y_.length = t33.length ∧ Kd.R (Kd.int .u32) 22 wd w.heap.size (fun k_ => some k_ ≠ ((.slice Ao33 t8.length co33) : Value).ownBlock ∧ some k_ ≠ ((.slice Ao39 t16.length co39) : Value).ownBlock ∧ some k_ ≠ ((.slice Ao41 t19.length co41) : Value).ownBlock ∧ some k_ ≠ ((.slice Ao62 t30.length co62) : Value).ownBlock) (.slice Ao63 t33.length co63) y_) ∧ Aside0 (Kept wo wd (fun k_ : Nat => some k_ = (.slice Ao62 t30.length co62 : Value).ownBlock ∨ some k_ = (.slice Ao63 t33.length co63 : Value).ownBlock)) ∧ Aside0 (Below w.heap.size w wd))
        case first =>
         go_wp2
         go_loopg [44] 2 (fun kq v44 w' => ∃ (q_ : Int), v44 = .int .i64 q_ ∧ Aside0 (0 ≤ q_ ∧ q_ + kq = 2) ∧ Aside0 (∃ y_ : List Int, y_.length = t30.length ∧ Kd.R (Kd.int .u32) 22 w' w.heap.size (fun k_ => some k_ ≠ ((.slice Ao33 t8.length co33) : Value).ownBlock ∧ some k_ ≠ ((.slice Ao39 t16.length co39) : Value).ownBlock ∧ some k_ ≠ ((.slice Ao41 t19.length co41) : Value).ownBlock ∧ some k_ ≠ ((.slice Ao63 t33.length co63) : Value).ownBlock) (.slice Ao62 t30.length co62) y_) ∧ Aside0 (∃ y_ : List Int, y_.length = t33.length ∧ Kd.R (Kd.int .u32) 22 w' w.heap.size (fun k_ => some k_ ≠ ((.slice Ao33 t8.length co33) : Value).ownBlock ∧ some k_ ≠ ((.slice Ao39 t16.length co39) : Value).ownBlock ∧ some k_ ≠ ((.slice Ao41 t19.length co41) : Value).ownBlock ∧ some k_ ≠ ((.slice Ao62 t30.length co62) : Value).ownBlock) (.slice Ao63 t33.length co63) y_) ∧ Aside0 (Kept wo w' (fun k_ : Nat => some k_ = (.slice Ao62 t30.length co62 : Value).ownBlock ∨ some k_ = (.slice Ao63 t33.length co63 : Value).ownBlock)) ∧ Aside0 (Below w.heap.size w w'))
         case atStart => exact ⟨0, rfl, ⟨by omega, by omega⟩, ⟨_, rfl, HO_41002.out⟩, ⟨_, rfl, HO_41003.out⟩, ⟨Kept.refl _ _⟩, HB⟩
         case round =>
          clear HB HO_41002 HO_41003
          obtain ⟨q_, rfl, hq_, hA0, hA1, HK_, HB⟩ := hrel
          obtain ⟨hq0, hqn⟩ := hq_.out
          clear hq_
          by_cases cq : q_ < 2
          ·
           have cqb : decide (q_ < 2) = true := decide_eq_true cq
           obtain rfl | rfl : q_ = 0 ∨ q_ = 1 := by omega
           ·
            clear hq0 cq
            have hix : ∀ w_ : World, (Instr.index 38 (.agg #[.slice Ao62 t30.length co62, .slice Ao63 t33.length co63]) (.int .i64 0)).run Try.prog w_ = .ok (.slice Ao62 t30.length co62) w_ := fun w_ => by kernel_rfl
            go_wp2
            go_loopg [49] t30.length (fun kq v49 w' => ∃ (i_ : Int), v49 = .int .i64 i_ ∧ Aside0 (0 ≤ i_ ∧ i_ + kq = (t30.length : Int)) ∧ Aside0 (∃ y_ : List Int, y_.length = t30.length ∧ Kd.R (Kd.int .u32) 22 w' w.heap.size (fun k_ => some k_ ≠ ((.slice Ao33 t8.length co33) : Value).ownBlock ∧ some k_ ≠ ((.slice Ao39 t16.length co39) : Value).ownBlock ∧ some k_ ≠ ((.slice Ao41 t19.length co41) : Value).ownBlock ∧ some k_ ≠ ((.slice Ao63 t33.length co63) : Value).ownBlock) (.slice Ao62 t30.length co62) y_) ∧ Aside0 (∃ y_ : List Int, y_.length = t33.length ∧ Kd.R (Kd.int .u32) 22 w' w.heap.size (fun k_ => some k_ ≠ ((.slice Ao33 t8.length co33) : Value).ownBlock ∧ some k_ ≠ ((.slice Ao39 t16.length co39) : Value).ownBlock ∧ some k_ ≠ ((.slice Ao41 t19.length co41) : Value).ownBlock ∧ some k_ ≠ ((.slice Ao62 t30.length co62) : Value).ownBlock) (.slice Ao63 t33.length co63) y_) ∧ Aside0 (Kept wo w' (fun k_ : Nat => some k_ = (.slice Ao62 t30.length co62 : Value).ownBlock ∨ some k_ = (.slice Ao63 t33.length co63 : Value).ownBlock)) ∧ Aside0 (Below w.heap.size w w'))
            case atStart => exact ⟨0, rfl, ⟨by omega, by omega⟩, hA0, hA1, HK_, HB⟩
            case round =>
             clear HB HK_ hA0 hA1
             obtain ⟨i_, rfl, hi_, hA0, hA1, HK_, HB⟩ := hrel
             obtain ⟨hi0, hin⟩ := hi_.out
             clear hi_
             obtain ⟨y_, hyl, HR_⟩ := hA0.out
             by_cases ci : i_ < (t30.length : Int)
             ·
              have cib : decide (i_ < (t30.length : Int)) = true := decide_eq_true ci
              have hi0b : decide (0 ≤ i_) = true := decide_eq_true hi0
              have hmax := (Kd.R_reads' HR_).2.2.2.1
              have hwr := inc_wrap i_ _ hi0 ci (by omega)
              obtain ⟨ad_, ea_, hx_⟩ := Kd.at_int (Kd.R_reads' HR_).2.2 i_ hi0 (by rw [hyl]; exact ci)
              cases ea_
              obtain ⟨go_, cg_, eg_, gb_, gl_, cl_, HG_⟩ := Kd.R_form HR_ (by omega)
              (first | cases eg_ | (injection eg_ with e1_ e2_ e3_; (first | subst e1_ | (injection e1_ with e1_; subst e1_)); subst e3_; clear e2_))
              have GB_ := Aside0.mk gb_
              clear gb_ gl_ HG_
              (first | simp only [add_plain] at hx_ | skip)
              obtain ⟨hc_, hf_⟩ := Kd.R_celln 0 HR_ i_ hi0 ci
              have HP_ := Aside0.mk (Kd.R_putg HR_ i_ ((rd y_ i_ + 1) % 4294967296))
              have HRa := Aside0.mk HR_
              clear HR_ hA0
              have Ny := Aside0.mk hyl
              have Nw := Aside0.mk hwr
              have Nm := Aside0.mk hmax
              clear hyl hwr hmax
              have p_ := eq_true hi0
              have q_ := eq_true ci
              have Nq := Aside0.mk hqn
              have Nn := Aside0.mk hin
              clear hqn hin hi0 ci
              go_wp2_with (first | ((with_reducible refine gate_store (t := 22) (p := 59) rfl ?_); refine store_event (t := 22) (p := 59) (v := ?vo_) (w1 := (wr.setCell ⟨go_, i_.toNat, none⟩ (.int .u32 ((rd y_ i_ + 1) % 4294967296)))) ?hg ?ho ?hn ?hr ?_; (case ho => rfl); (case hg => rfl); (case hn => rfl); (case hr => first | (go_simp; done) | (go_simp; rfl)); intro w1_ hw_))
              subst hw_
              have hn_ := Nn.out
              have hq2_ := p_
              go_roundg (gk - 1)
              case measure => have := of_eq_true q_; omega
              case rel => exact ⟨i_ + 1, by first | rfl | (rw [← Nw.out]; rfl) | (simp [Nw.out]; done), ⟨by have := of_eq_true p_; omega, by have := of_eq_true q_; omega⟩, ⟨_, (inc_len _ _ _).trans Ny.out, HP_.out.1⟩, (by obtain ⟨y2_, hl2_, hr2_⟩ := hA1.out; exact ⟨y2_, hl2_, Kd.R_far hr2_ (p := ⟨go_, i_.toNat, none⟩) (fun k_ hk_ e_ => by subst e_; first | exact hk_ rfl | exact hk_.1 rfl | exact hk_.2 rfl | exact hk_.2.1 rfl | exact hk_.2.2 rfl | exact hk_.2.2.1 rfl | exact hk_.2.2.2 rfl | exact hk_.2.2.2.1 rfl | exact hk_.2.2.2.2 rfl | exact hk_.2.2.2.2.1 rfl | exact hk_.2.2.2.2.2 rfl) _⟩), ⟨Kept.setCell HK_.out (Or.inl (by simp [Value.ownBlock])) _⟩, ⟨below_set HB.out GB_.out⟩⟩
             ·
              have cib : decide (i_ < (t30.length : Int)) = false := decide_eq_false ci
              clear hin ci
              go_wp2
              go_roundg 1
              case measure => omega
              case rel => exact ⟨1, (by first | rfl | (simp; done)), ⟨by omega, by omega⟩, hA0, hA1, HK_, HB⟩
           ·
            clear hq0 cq
            have hix : ∀ w_ : World, (Instr.index 38 (.agg #[.slice Ao62 t30.length co62, .slice Ao63 t33.length co63]) (.int .i64 1)).run Try.prog w_ = .ok (.slice Ao63 t33.length co63) w_ := fun w_ => by kernel_rfl
            go_wp2
            go_loopg [49] t33.length (fun kq v49 w' => ∃ (i_ : Int), v49 = .int .i64 i_ ∧ Aside0 (0 ≤ i_ ∧ i_ + kq = (t33.length : Int)) ∧ Aside0 (∃ y_ : List Int, y_.length = t30.length ∧ Kd.R (Kd.int .u32) 22 w' w.heap.size (fun k_ => some k_ ≠ ((.slice Ao33 t8.length co33) : Value).ownBlock ∧ some k_ ≠ ((.slice Ao39 t16.length co39) : Value).ownBlock ∧ some k_ ≠ ((.slice Ao41 t19.length co41) : Value).ownBlock ∧ some k_ ≠ ((.slice Ao63 t33.length co63) : Value).ownBlock) (.slice Ao62 t30.length co62) y_) ∧ Aside0 (∃ y_ : List Int, y_.length = t33.length ∧ Kd.R (Kd.int .u32) 22 w' w.heap.size (fun k_ => some k_ ≠ ((.slice Ao33 t8.length co33) : Value).ownBlock ∧ some k_ ≠ ((.slice Ao39 t16.length co39) : Value).ownBlock ∧ some k_ ≠ ((.slice Ao41 t19.length co41) : Value).ownBlock ∧ some k_ ≠ ((.slice Ao62 t30.length co62) : Value).ownBlock) (.slice Ao63 t33.length co63) y_) ∧ Aside0 (Kept wo w' (fun k_ : Nat => some k_ = (.slice Ao62 t30.length co62 : Value).ownBlock ∨ some k_ = (.slice Ao63 t33.length co63 : Value).ownBlock)) ∧ Aside0 (Below w.heap.size w w'))
            case atStart => exact ⟨0, rfl, ⟨by omega, by omega⟩, hA0, hA1, HK_, HB⟩
            case round =>
             clear HB HK_ hA0 hA1
             obtain ⟨i_, rfl, hi_, hA0, hA1, HK_, HB⟩ := hrel
             obtain ⟨hi0, hin⟩ := hi_.out
             clear hi_
             obtain ⟨y_, hyl, HR_⟩ := hA1.out
             by_cases ci : i_ < (t33.length : Int)
             ·
              have cib : decide (i_ < (t33.length : Int)) = true := decide_eq_true ci
              have hi0b : decide (0 ≤ i_) = true := decide_eq_true hi0
              have hmax := (Kd.R_reads' HR_).2.2.2.1
              have hwr := inc_wrap i_ _ hi0 ci (by omega)
              obtain ⟨ad_, ea_, hx_⟩ := Kd.at_int (Kd.R_reads' HR_).2.2 i_ hi0 (by rw [hyl]; exact ci)
              cases ea_
              obtain ⟨go_, cg_, eg_, gb_, gl_, cl_, HG_⟩ := Kd.R_form HR_ (by omega)
              (first | cases eg_ | (injection eg_ with e1_ e2_ e3_; (first | subst e1_ | (injection e1_ with e1_; subst e1_)); subst e3_; clear e2_))
              have GB_ := Aside0.mk gb_
              clear gb_ gl_ HG_
              (first | simp only [add_plain] at hx_ | skip)
              obtain ⟨hc_, hf_⟩ := Kd.R_celln 0 HR_ i_ hi0 ci
              have HP_ := Aside0.mk (Kd.R_putg HR_ i_ ((rd y_ i_ + 1) % 4294967296))
              have HRa := Aside0.mk HR_
              clear HR_ hA1
              have Ny := Aside0.mk hyl
              have Nw := Aside0.mk hwr
              have Nm := Aside0.mk hmax
              clear hyl hwr hmax
              have p_ := eq_true hi0
              have q_ := eq_true ci
              have Nq := Aside0.mk hqn
              have Nn := Aside0.mk hin
              clear hqn hin hi0 ci
              go_wp2_with (first | ((with_reducible refine gate_store (t := 22) (p := 59) rfl ?_); refine store_event (t := 22) (p := 59) (v := ?vo_) (w1 := (wr.setCell ⟨go_, i_.toNat, none⟩ (.int .u32 ((rd y_ i_ + 1) % 4294967296)))) ?hg ?ho ?hn ?hr ?_; (case ho => rfl); (case hg => rfl); (case hn => rfl); (case hr => first | (go_simp; done) | (go_simp; rfl)); intro w1_ hw_))
              subst hw_
              have hn_ := Nn.out
              have hq2_ := p_
              go_roundg (gk - 1)
              case measure => have := of_eq_true q_; omega
              case rel => exact ⟨i_ + 1, by first | rfl | (rw [← Nw.out]; rfl) | (simp [Nw.out]; done), ⟨by have := of_eq_true p_; omega, by have := of_eq_true q_; omega⟩, (by obtain ⟨y2_, hl2_, hr2_⟩ := hA0.out; exact ⟨y2_, hl2_, Kd.R_far hr2_ (p := ⟨go_, i_.toNat, none⟩) (fun k_ hk_ e_ => by subst e_; first | exact hk_ rfl | exact hk_.1 rfl | exact hk_.2 rfl | exact hk_.2.1 rfl | exact hk_.2.2 rfl | exact hk_.2.2.1 rfl | exact hk_.2.2.2 rfl | exact hk_.2.2.2.1 rfl | exact hk_.2.2.2.2 rfl | exact hk_.2.2.2.2.1 rfl | exact hk_.2.2.2.2.2 rfl) _⟩), ⟨_, (inc_len _ _ _).trans Ny.out, HP_.out.1⟩, ⟨Kept.setCell HK_.out (Or.inl (by simp [Value.ownBlock])) _⟩, ⟨below_set HB.out GB_.out⟩⟩
             ·
              have cib : decide (i_ < (t33.length : Int)) = false := decide_eq_false ci
              clear hin ci
              go_wp2
              go_roundg 0
              case measure => omega
              case rel => exact ⟨2, (by first | rfl | (simp; done)), ⟨by omega, by omega⟩, hA0, hA1, HK_, HB⟩
          ·
           have cqb : decide (q_ < 2) = false := decide_eq_false cq
           clear cq hq0 hqn
           go_wp2
           go_meet
           case rel => exact ⟨hA0, hA1, HK_, HB⟩
        case rest =>
         have HK_ := hcut.2.2.1
         have HB2_ := hcut.2.2.2
         have hA0 := hcut.1
         have hA1 := hcut.2.1
         replace HO_27002 := Aside0.mk (Kd.R_kept HO_27002.out HK_.out (fun k_ hk_ hs_ => hs_.elim hk_.2.2.1 hk_.2.2.2))
         replace HO_27003 := Aside0.mk (Kd.S_mono (Kd.S_kept (inc_S (inc_S HO_27003.out HO_41002.out (by decide)) HO_41003.out (by decide)) HK_.out (fun k_ hk_ hs_ => hs_.elim hk_.1.2 hk_.2)) (fun _ hk_ => hk_.1.1))
         replace HO_28002 := Aside0.mk (Kd.R_kept HO_28002.out HK_.out (fun k_ hk_ hs_ => hs_.elim hk_.2.2.1 hk_.2.2.2))
         replace HO_28003 := Aside0.mk (Kd.R_kept HO_28003.out HK_.out (fun k_ hk_ hs_ => hs_.elim hk_.2.2.1 hk_.2.2.2))
         replace BK1 := Aside0.mk (blk_kept BK1.out HK_.out (fun hs_ => hs_.elim (inc_B BK1.out HO_41002.out (by decide)) (inc_B BK1.out HO_41003.out (by decide))))
         replace BK2 := Aside0.mk (blk_kept BK2.out HK_.out (fun hs_ => hs_.elim (inc_B BK2.out HO_41002.out (by decide)) (inc_B BK2.out HO_41003.out (by decide))))
         replace BK26 := Aside0.mk (blk_kept BK26.out HK_.out (fun hs_ => hs_.elim (inc_B BK26.out HO_41002.out (by decide)) (inc_B BK26.out HO_41003.out (by decide))))
         replace BK27 := Aside0.mk (blk_kept BK27.out HK_.out (fun hs_ => hs_.elim (inc_B BK27.out HO_41002.out (by decide)) (inc_B BK27.out HO_41003.out (by decide))))
         replace BK40 := Aside0.mk (blk_kept BK40.out HK_.out (fun hs_ => hs_.elim (inc_B BK40.out HO_41002.out (by decide)) (inc_B BK40.out HO_41003.out (by decide))))
         replace HB := HB2_
         obtain ⟨z0_, -, hz0_⟩ := hA0.out
         replace HO_41002 := Aside0.mk hz0_
         clear hz0_
         obtain ⟨z1_, -, hz1_⟩ := hA1.out
         replace HO_41003 := Aside0.mk hz1_
         clear hz1_
         clear hcut HK_ HB2_ hA0 hA1
         have H := HH_.out
         clear HH_
         by_cases c83 : t56 = true
         ·
          subst c83
          have H1 : ((q16z.f kj23 t14 t15 t16 t19 t22 t23 t24 t25 a1_0 a1_1 l1_2 l1_3 a1_4 a1_5 a1_6 a1_7).bind fun t57 => (some (t57 == 0))) = some r := by rw [if_pos rfl] at H; exact H
          clear H
          have H := H1
          clear H1
          replace H := Option.bind_eq_some_iff.mp H
          obtain ⟨t57, A840, H⟩ := H
          replace H : (some (t57 == 0)) = some r := H
          have A84 := Aside0.mk A840
          clear A840
          obtain rfl := Option.some.inj H
          have hnb85 := NB40_1.out
          have hnc85 := NB1_40.out
          have hnb86 := NB40_2.out
          have hnc86 := NB2_40.out
          have hnb87 := NB40_26.out
          have hnc87 := NB26_40.out
          have hnb88 := NB40_27.out
          have hnc88 := NB27_40.out
          obtain ⟨hcz89_0, hcz89_1, hcz89_2, hcz89_3, hcz89_4, hcz89_5, hcz89_6, hcz89_7, hfz89_0, hfz89_1, hfz89_2, hfz89_3, hfz89_4, hfz89_5, hfz89_6, hfz89_7⟩ := bc8 BK40
          have hnb90 := NB26_1.out
          have hnc90 := NB1_26.out
          have hnb91 := NB26_2.out
          have hnc91 := NB2_26.out
          have hnb92 := NB26_27.out
          have hnc92 := NB27_26.out
          obtain ⟨hcz93_0, hcz93_1, hcz93_2, hcz93_3, hfz93_0, hfz93_1, hfz93_2, hfz93_3⟩ := bc4 BK26
          have hnb94 := NB1_2.out
          have hnc94 := NB2_1.out
          have hnb95 := NB1_27.out
          have hnc95 := NB27_1.out
          obtain ⟨hcz96_0, hcz96_1, hcz96_2, hcz96_3, hfz96_0, hfz96_1, hfz96_2, hfz96_3⟩ := bc4 BK1
          go_wp2_with (first | ((with_reducible refine gate_callee (f := 18) rfl ?_); refine goesL_ (some 64) rfl rfl Try.func18 (by kernel_rfl) rfl #[.agg #[.int .i64 t6, .int .u32 t7, .slice Ao33 t8.length co33, .slice Ao35 t11.length co35], .agg #[.int .i64 a0_0, .int .u32 a0_1, .slice A0_2 l0_2.length c0_2, .slice A0_3 l0_3.length c0_3]] rfl (by (try simp only [List.map_toArray, List.map_cons, List.map_nil]); first | done | rfl | (simp only [List.length_drop, List.length_take]; rfl)) ?_; (with_reducible refine (q24z.calls kj23 t6 t7 _ _ t8 _ _ t11 a0_0 a0_1 _ _ l0_2 _ _ l0_3 true _ ?side1 ?side2 ?side3 ?side4 ?side5 ?side6 ?side7 ?side8 A82.out).mono ?_); (case side1 => repeat (first | exact (Kd.R_reads' HO_27002.out).2.2 | (with_reducible refine Kd.C_alloc ?_ _) | (with_reducible refine Kd.C_drewN ?_ _) | (with_reducible refine Kd.C_drew ?_))); (case side2 => exact (Kd.R_reads' HO_27002.out).2.1); (case side3 => repeat (first | exact (Kd.S_reads' HO_27003.out).2.2 | (with_reducible refine Kd.C_alloc ?_ _) | (with_reducible refine Kd.C_drewN ?_ _) | (with_reducible refine Kd.C_drew ?_))); (case side4 => exact (Kd.S_reads' HO_27003.out).2.1); (case side5 => repeat (first | exact (Kd.C_below HR0_2.out HB.out) | (with_reducible refine Kd.C_alloc ?_ _) | (with_reducible refine Kd.C_drewN ?_ _) | (with_reducible refine Kd.C_drew ?_))); (case side6 => exact HC0_2.out); (case side7 => repeat (first | exact (Kd.C_below HR0_3.out HB.out) | (with_reducible refine Kd.C_alloc ?_ _) | (with_reducible refine Kd.C_drewN ?_ _) | (with_reducible refine Kd.C_drew ?_))); (case side8 => exact HC0_3.out); rintro e w97 ⟨rfl, hb⟩; refine ⟨_, rfl, ?_⟩; replace HO_27002 := Aside0.mk (Kd.R_below (rW HO_27002) hb); replace HO_27003 := Aside0.mk (Kd.S_below (by (with_reducible repeat (first | apply Kd.S_alloc | apply Kd.S_drewN | apply Kd.S_drew)); exact HO_27003.out) hb); replace HO_28002 := Aside0.mk (Kd.R_below (rW HO_28002) hb); replace HO_28003 := Aside0.mk (Kd.R_below (rW HO_28003) hb); replace HO_41002 := Aside0.mk (Kd.R_below (rW HO_41002) hb); replace HO_41003 := Aside0.mk (Kd.R_below (rW HO_41003) hb); replace BK1 := bkB BK1 hb; replace BK2 := bkB BK2 hb; replace BK26 := bkB BK26 hb; replace BK27 := bkB BK27 hb; replace BK40 := bkB BK40 hb; replace HB := hbS HB hb; (try clear hb); have hnb98 := NB27_2.out; have hnc98 := NB2_27.out; obtain ⟨hcz99_0, hcz99_1, hcz99_2, hcz99_3, hcz99_4, hcz99_5, hcz99_6, hcz99_7, hfz99_0, hfz99_1, hfz99_2, hfz99_3, hfz99_4, hfz99_5, hfz99_6, hfz99_7⟩ := bc8 BK27; obtain ⟨hcz100_0, hcz100_1, hcz100_2, hcz100_3, hcz100_4, hcz100_5, hcz100_6, hcz100_7, hfz100_0, hfz100_1, hfz100_2, hfz100_3, hfz100_4, hfz100_5, hfz100_6, hfz100_7⟩ := bc8 BK2) | (go_at_call 16; (with_reducible refine (q16z.calls kj23 t14 t15 _ _ t16 _ _ t19 t22 t23 t24 t25 a1_0 a1_1 _ _ l1_2 _ _ l1_3 a1_4 a1_5 a1_6 a1_7 t57 _ ?side1 ?side2 ?side3 ?side4 ?side5 ?side6 ?side7 ?side8 A84.out).mono ?_); (case side1 => repeat (first | exact (Kd.R_reads' HO_28002.out).2.2 | (with_reducible refine Kd.C_alloc ?_ _) | (with_reducible refine Kd.C_drewN ?_ _) | (with_reducible refine Kd.C_drew ?_))); (case side2 => exact (Kd.R_reads' HO_28002.out).2.1); (case side3 => repeat (first | exact (Kd.R_reads' HO_28003.out).2.2 | (with_reducible refine Kd.C_alloc ?_ _) | (with_reducible refine Kd.C_drewN ?_ _) | (with_reducible refine Kd.C_drew ?_))); (case side4 => exact (Kd.R_reads' HO_28003.out).2.1); (case side5 => repeat (first | exact (Kd.C_below HR1_2.out HB.out) | (with_reducible refine Kd.C_alloc ?_ _) | (with_reducible refine Kd.C_drewN ?_ _) | (with_reducible refine Kd.C_drew ?_))); (case side6 => exact HC1_2.out); (case side7 => repeat (first | exact (Kd.C_below HR1_3.out HB.out) | (with_reducible refine Kd.C_alloc ?_ _) | (with_reducible refine Kd.C_drewN ?_ _) | (with_reducible refine Kd.C_drew ?_))); (case side8 => exact HC1_3.out); rintro e w101 ⟨rfl, hb⟩; replace HO_27002 := Aside0.mk (Kd.R_below (rW HO_27002) hb); replace HO_27003 := Aside0.mk (Kd.S_below (by (with_reducible repeat (first | apply Kd.S_alloc | apply Kd.S_drewN | apply Kd.S_drew)); exact HO_27003.out) hb); replace HO_28002 := Aside0.mk (Kd.R_below (rW HO_28002) hb); replace HO_28003 := Aside0.mk (Kd.R_below (rW HO_28003) hb); replace HO_41002 := Aside0.mk (Kd.R_below (rW HO_41002) hb); replace HO_41003 := Aside0.mk (Kd.R_below (rW HO_41003) hb); replace BK1 := bkB BK1 hb; replace BK2 := bkB BK2 hb; replace BK26 := bkB BK26 hb; replace BK27 := bkB BK27 hb; replace BK40 := bkB BK40 hb; replace HB := hbS HB hb; (try clear hb)))
          go_ret
          exact ⟨by first | rfl | (simp [errW_none, errW_some] <;> rfl) | (simp [*, errW_none, errW_some] <;> rfl), hbW HB⟩
         ·
          replace c83 := Bool.eq_false_iff.mpr c83
          subst c83
          have H1 : (some false) = some r := by rw [if_neg (show ¬ (false = true) by decide)] at H; exact H
          clear H
          have H := H1
          clear H1
          obtain rfl := Option.some.inj H
          have hnb102 := NB40_1.out
          have hnc102 := NB1_40.out
          have hnb103 := NB40_2.out
          have hnc103 := NB2_40.out
          have hnb104 := NB40_26.out
          have hnc104 := NB26_40.out
          have hnb105 := NB40_27.out
          have hnc105 := NB27_40.out
          obtain ⟨hcz106_0, hcz106_1, hcz106_2, hcz106_3, hcz106_4, hcz106_5, hcz106_6, hcz106_7, hfz106_0, hfz106_1, hfz106_2, hfz106_3, hfz106_4, hfz106_5, hfz106_6, hfz106_7⟩ := bc8 BK40
          have hnb107 := NB26_1.out
          have hnc107 := NB1_26.out
          have hnb108 := NB26_2.out
          have hnc108 := NB2_26.out
          have hnb109 := NB26_27.out
          have hnc109 := NB27_26.out
          obtain ⟨hcz110_0, hcz110_1, hcz110_2, hcz110_3, hfz110_0, hfz110_1, hfz110_2, hfz110_3⟩ := bc4 BK26
          have hnb111 := NB1_2.out
          have hnc111 := NB2_1.out
          have hnb112 := NB1_27.out
          have hnc112 := NB27_1.out
          obtain ⟨hcz113_0, hcz113_1, hcz113_2, hcz113_3, hfz113_0, hfz113_1, hfz113_2, hfz113_3⟩ := bc4 BK1
          go_wp2_with (first | ((with_reducible refine gate_callee (f := 18) rfl ?_); refine goesL_ (some 64) rfl rfl Try.func18 (by kernel_rfl) rfl #[.agg #[.int .i64 t6, .int .u32 t7, .slice Ao33 t8.length co33, .slice Ao35 t11.length co35], .agg #[.int .i64 a0_0, .int .u32 a0_1, .slice A0_2 l0_2.length c0_2, .slice A0_3 l0_3.length c0_3]] rfl (by (try simp only [List.map_toArray, List.map_cons, List.map_nil]); first | done | rfl | (simp only [List.length_drop, List.length_take]; rfl)) ?_; (with_reducible refine (q24z.calls kj23 t6 t7 _ _ t8 _ _ t11 a0_0 a0_1 _ _ l0_2 _ _ l0_3 false _ ?side1 ?side2 ?side3 ?side4 ?side5 ?side6 ?side7 ?side8 A82.out).mono ?_); (case side1 => repeat (first | exact (Kd.R_reads' HO_27002.out).2.2 | (with_reducible refine Kd.C_alloc ?_ _) | (with_reducible refine Kd.C_drewN ?_ _) | (with_reducible refine Kd.C_drew ?_))); (case side2 => exact (Kd.R_reads' HO_27002.out).2.1); (case side3 => repeat (first | exact (Kd.S_reads' HO_27003.out).2.2 | (with_reducible refine Kd.C_alloc ?_ _) | (with_reducible refine Kd.C_drewN ?_ _) | (with_reducible refine Kd.C_drew ?_))); (case side4 => exact (Kd.S_reads' HO_27003.out).2.1); (case side5 => repeat (first | exact (Kd.C_below HR0_2.out HB.out) | (with_reducible refine Kd.C_alloc ?_ _) | (with_reducible refine Kd.C_drewN ?_ _) | (with_reducible refine Kd.C_drew ?_))); (case side6 => exact HC0_2.out); (case side7 => repeat (first | exact (Kd.C_below HR0_3.out HB.out) | (with_reducible refine Kd.C_alloc ?_ _) | (with_reducible refine Kd.C_drewN ?_ _) | (with_reducible refine Kd.C_drew ?_))); (case side8 => exact HC0_3.out); rintro e w114 ⟨rfl, hb⟩; refine ⟨_, rfl, ?_⟩; replace HO_27002 := Aside0.mk (Kd.R_below (rW HO_27002) hb); replace HO_27003 := Aside0.mk (Kd.S_below (by (with_reducible repeat (first | apply Kd.S_alloc | apply Kd.S_drewN | apply Kd.S_drew)); exact HO_27003.out) hb); replace HO_28002 := Aside0.mk (Kd.R_below (rW HO_28002) hb); replace HO_28003 := Aside0.mk (Kd.R_below (rW HO_28003) hb); replace HO_41002 := Aside0.mk (Kd.R_below (rW HO_41002) hb); replace HO_41003 := Aside0.mk (Kd.R_below (rW HO_41003) hb); replace BK1 := bkB BK1 hb; replace BK2 := bkB BK2 hb; replace BK26 := bkB BK26 hb; replace BK27 := bkB BK27 hb; replace BK40 := bkB BK40 hb; replace HB := hbS HB hb; (try clear hb)))
          go_ret
          exact ⟨by first | rfl | (simp [errW_none, errW_some] <;> rfl) | (simp [*, errW_none, errW_some] <;> rfl), hbW HB⟩
 ·
  replace c4 := Bool.eq_false_iff.mpr c4
  subst c4
  have H1 : (some false) = some r := by rw [if_neg (show ¬ (false = true) by decide)] at H; exact H
  clear H
  have H := H1
  clear H1
  obtain rfl := Option.some.inj H
  go_enter Try.func3, Try.ntmps3
  go_wp2_with (first | ((with_reducible refine gate_dst (N := 2) rfl ?_); refine box_event ?hg (N := 2) ?hd (cs := #[.int .i64 a0_0, .int .u32 a0_1, .slice A0_2 l0_2.length c0_2, .slice A0_3 l0_3.length c0_3]) (t := 26) ?hr ?_; (case hd => rfl); (case hg => rfl); (case hr => first | (go_simp; done) | (go_simp; rfl)); intro gb1 hg w115 hbox hb; have BK1 := Aside0.mk (hbox); have GW1 := gwS hg HB; have GE1 := gwS hg HB; replace HB := hbS HB hb; clear hb hbox hg) | ((with_reducible refine gate_dst (N := 3) rfl ?_); refine box_event ?hg (N := 3) ?hd (cs := #[.int .u32 a1_0, .int .i64 a1_1, .slice A1_2 l1_2.length c1_2, .slice A1_3 l1_3.length c1_3, .int .u32 a1_4, .int .u32 a1_5, .int .i64 a1_6, .int .u32 a1_7]) (t := 30) ?hr ?_; (case hd => rfl); (case hg => rfl); (case hr => first | (go_simp; done) | (go_simp; rfl)); intro gb2 hg w116 hbox hb; have BK2 := Aside0.mk (hbox); have GW2 := gwS hg HB; have GE2 := gwS hg HB; have NB1_2 := nbL hg BK1; have NB2_1 := nbG hg BK1; replace BK1 := bkB BK1 hb; replace HB := hbS HB hb; clear hb hbox hg) | ((with_reducible refine gate_callee (f := 8) rfl ?_); refine goesL_ (some 11) rfl rfl Try.func8 (by kernel_rfl) rfl #[] rfl (by (try simp only [List.map_toArray, List.map_cons, List.map_nil]); first | done | rfl | (simp only [List.length_drop, List.length_take]; rfl)) ?_; (with_reducible refine (q25z.calls k  false _ A3.out).mono ?_); rintro e w117 ⟨rfl, hb⟩; refine ⟨_, rfl, ?_⟩; replace BK1 := bkB BK1 hb; replace BK2 := bkB BK2 hb; replace HB := hbS HB hb; (try clear hb)))
  go_ret
  exact ⟨by first | rfl | (simp [errW_none, errW_some] <;> rfl) | (simp [*, errW_none, errW_some] <;> rfl), hbW HB⟩

end Go.Proofs.Ytgelpccjdndfoaa.P
namespace Go.Proofs.Ytgelpccjdndfoaa.P
open Go.RowKit Go.Proofs.YtgelpccjdndfoaaW.PrintWords Go.Proofs.YtgelpccjdndfoaaW.PrintLast Go.Proofs.YtgelpccjdndfoaaW.PrintMore Go.ChangeShapes Go.WideShapes
section
variable {H : Type} {enc : TypeId × Value → H} {P : Program} {w : World} {base : Nat} {spare : Nat → Bool} {held : Bool}
/-- Whatever reads as data of type T is a value of kind d. -/
def Opens (enc : TypeId × Value → H) (P : Program) (w : World) (base : Nat) (spare : Nat → Bool) (held : Bool) {α : Type} (d : Kd α) (T : TypeId) (good : α → Prop) : Prop :=
  ∀ fuel cs y, DataW.trod enc P w base spare held fuel T cs = some y → ∃ x, d.K w x cs ∧ good x
theorem opens_int {k : IntKind} {T : TypeId} (ht : P.underlying T = some (.int k)) : Opens enc P w base spare held (Kd.int k) T (fun n => (Lit.int k n).wf = true) := by
  intro fuel cs y h
  obtain ⟨n, rfl, _, hw⟩ := DataW.trod_int ht h
  exact ⟨n, rfl, hw⟩
theorem opens_bool {T : TypeId} (ht : P.underlying T = some .bool) : Opens enc P w base spare held Kd.bool T (fun _ => True) := by
  intro fuel cs y h
  cases fuel with
  | zero => simp [DataW.trod] at h
  | succ n =>
    unfold DataW.trod at h
    rw [ht] at h
    split at h
    all_goals first | exact ⟨_, rfl, trivial⟩ | (exfalso; simp_all; done)
theorem pick_list {α : Type} {Q : Nat → α → Prop} : ∀ n : Nat, (∀ i, i < n → ∃ x, Q i x) → ∃ xs : List α, xs.length = n ∧ ∀ i x, xs[i]? = some x → Q i x
  | 0, _ => ⟨[], rfl, fun i x h => by simp at h⟩
  | n + 1, h => by
    obtain ⟨xs, hl, hx⟩ := pick_list n (fun i hi => h i (by omega))
    obtain ⟨x, hxn⟩ := h n (by omega)
    refine ⟨xs ++ [x], by simp [hl], fun i z hz => ?_⟩
    by_cases hi : i < n
    · rw [List.getElem?_append_left (by omega)] at hz
      exact hx i z hz
    · rw [List.getElem?_append_right (by omega)] at hz
      have hi0 : i - xs.length = 0 := by
        have := (List.getElem?_eq_some_iff.1 hz).1
        simp at this
        omega
      rw [hi0] at hz
      have : x = z := by simpa using hz
      subst this
      have : i = n := by omega
      subst this
      exact hxn
theorem opens_slice {α : Type} {d : Kd α} {T e : TypeId} {good : α → Prop} (ht : P.underlying T = some (.slice e)) (hce : P.cellsOf e = d.sz) (ho : Opens enc P w base spare held d e good) :
    Opens enc P w base spare held (Kd.slice e d) T (fun xs => xs.length ≤ 9223372036854775807 ∧ ∀ x ∈ xs, good x) := by
  intro fuel cs y h
  rcases Go.Deep.open_slice ht h with ⟨rfl, _⟩ | ⟨a, len, cap, m, n, D, Pl, rfl, hb, hl, hm, hmm, _, hx⟩
  · exact ⟨[], ⟨none, 0, rfl, Nat.le_refl _, ⟨rfl, by simp, fun h => absurd h (by simp)⟩⟩, by simp, fun x hx => (List.not_mem_nil hx).elim⟩
  · have hlm : len ≤ m := by rw [hmm]; split <;> omega
    have each : ∀ i, i < len → ∃ q : α × List Value, w.cells? base (a.add (i * d.sz)) d.sz = some q.2 ∧ d.K w q.1 q.2 ∧ good q.1 := fun i hi => by
      obtain ⟨cs', h1, h2⟩ := hx i (by omega)
      obtain ⟨x, hk, hg⟩ := ho _ _ _ h2
      rw [hce] at h1
      exact ⟨(x, cs'), h1, hk, hg⟩
    obtain ⟨qs, hql, hq⟩ := pick_list len each
    refine ⟨qs.map (·.1), ⟨some a, cap, by simp [hql], by simp [hql]; omega, ?_⟩, by simp only [List.length_map, hql]; unfold maxLen at hm; omega, ?_⟩
    · refine ⟨rfl, by simp only [List.length_map, hql]; unfold maxLen at hm; omega, fun _ => ⟨a, rfl, fun j p hp => ?_⟩⟩
      rw [List.getElem?_map] at hp
      obtain ⟨q, hqj, rfl⟩ := Option.map_eq_some_iff.1 hp
      obtain ⟨h1, h2, _⟩ := hq j q hqj
      obtain ⟨_, h4, h5⟩ := World.cells?_some h1
      refine ⟨q.2, h4, h2, fun i u hu => ?_⟩
      have hi : i < d.sz := by have := (List.getElem?_eq_some_iff.1 hu).1; omega
      have h6 := h5 i hi
      rw [add_add] at h6
      rw [h6, hu]
    · intro x hx'
      obtain ⟨q, hq', rfl⟩ := List.mem_map.1 hx'
      obtain ⟨i, hi⟩ := List.getElem?_of_mem hq'
      exact (hq i q hi).2.2
end
end Go.Proofs.Ytgelpccjdndfoaa.P
