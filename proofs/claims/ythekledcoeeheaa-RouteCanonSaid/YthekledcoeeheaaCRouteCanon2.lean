/- Part of the proof of the law RouteCanon: the functions that it reaches, by contract. -/
import Derived.Test.YthekledcoeeheaaCRouteCanon0
import Derived.Test.YthekledcoeeheaaCRouteCanon1
set_option linter.unusedVariables false
set_option linter.unusedSimpArgs false
namespace Go.Proofs.Ythekledcoeeheaa.P
open Go.RowKit Go.Proofs.YthekledcoeeheaaW.PrintWords Go.Proofs.YthekledcoeeheaaW.PrintLast Go.Proofs.YthekledcoeeheaaW.PrintMore
attribute [local go_sem] max2_int min2_int max_two min_two max_three min_three max_four min_four
/-! ### dragomanlaw03_RouteCanon: function 7 -/
def q24z.f (k : Nat) (a0_0 : Int) (a0_1 : Int) (l0_2 : List Int) (l0_3 : List Int) (a0_4 : Int) (a0_5 : Int) (a0_6 : Int) (a0_7 : Int) : Option (Bool) := (q15z.f k).bind fun t2 => (if t2 = true then ((q16z.f a0_0 a0_1 l0_2 l0_3 a0_4 a0_5 a0_6 a0_7).bind fun t3 => (if t3 = true then (some true) else ((q17z.f a0_0 a0_1 l0_2 l0_3 a0_4 a0_5 a0_6 a0_7).bind fun bt4 => ((q6z.f k bt4.1 bt4.2.1 bt4.2.2.1 bt4.2.2.2.1 bt4.2.2.2.2.1 bt4.2.2.2.2.2.1 bt4.2.2.2.2.2.2.1 bt4.2.2.2.2.2.2.2).bind fun bt17 => ((q5z.f bt4.1 bt4.2.1 bt4.2.2.1 bt4.2.2.2.1 bt4.2.2.2.2.1 bt4.2.2.2.2.2.1 bt4.2.2.2.2.2.2.1 bt4.2.2.2.2.2.2.2).bind fun bt29 => ((q23z.f k a0_0 a0_1 l0_2 l0_3 a0_4 a0_5 a0_6 a0_7).bind fun bt43 => ((q20z.f k bt17.1 bt17.2.1 bt17.2.2.1 bt17.2.2.2.1 bt17.2.2.2.2.1 bt17.2.2.2.2.2.1 bt17.2.2.2.2.2.2.1 bt17.2.2.2.2.2.2.2 bt43.1 bt43.2.1 bt43.2.2.1 bt43.2.2.2.1 bt43.2.2.2.2.1 bt43.2.2.2.2.2.1 bt43.2.2.2.2.2.2.1 bt43.2.2.2.2.2.2.2).bind fun t55 => (if t55 = 0 then ((q20z.f k bt29.1 bt29.2.1 bt29.2.2.1 bt29.2.2.2.1 bt29.2.2.2.2.1 bt29.2.2.2.2.2.1 bt29.2.2.2.2.2.2.1 bt29.2.2.2.2.2.2.2 a0_0 a0_1 l0_2 l0_3 a0_4 a0_5 a0_6 a0_7).bind fun t56 => (if t56 = 0 then ((q20z.f k bt4.1 bt4.2.1 bt4.2.2.1 bt4.2.2.2.1 bt4.2.2.2.2.1 bt4.2.2.2.2.2.1 bt4.2.2.2.2.2.2.1 bt4.2.2.2.2.2.2.2 a0_0 a0_1 l0_2 l0_3 a0_4 a0_5 a0_6 a0_7).bind fun t57 => (some (t57 == 0))) else (some false))) else (some false))))))))) else (some false))
theorem q24z.mono : ∀ a0 a1 a2 a3 a4 a5 a6 a7 k, LeO (q24z.f k a0 a1 a2 a3 a4 a5 a6 a7) (q24z.f (k + 1) a0 a1 a2 a3 a4 a5 a6 a7) := by
 intro a0 a1 a2 a3 a4 a5 a6 a7 k
 unfold q24z.f
 repeat' first
   | (with_reducible exact q15z.mono _)
   | (with_reducible exact q23z.mono _ _ _ _ _ _ _ _ _)
   | (with_reducible exact q20z.mono _ _ _ _ _ _ _ _ _ _ _ _ _ _ _ _ _)
   | (with_reducible exact q6z.mono _ _ _ _ _ _ _ _ _)
   | (with_reducible exact LeO.refl _)
   | (with_reducible exact LeO.none _)
   | (with_reducible refine LeO.ite ?_ ?_)
   | (with_reducible refine LeO.bind ?_ (fun _ => ?_))
   | exact q15z.mono _
   | exact q23z.mono _ _ _ _ _ _ _ _ _
   | exact q20z.mono _ _ _ _ _ _ _ _ _ _ _ _ _ _ _ _ _
   | exact q6z.mono _ _ _ _ _ _ _ _ _
   | exact LeO.none _
   | refine LeO.ite ?_ ?_
   | refine LeO.bind ?_ (fun _ => ?_)
def q24z.T6 : Bool × List (List Nat × List Nat) := (true, [([], []), ([0], [0]), ([], []), ([2, 1], [2]), ([], []), ([], []), ([4, 1, 3, 0, 1, 4, 5], [1, 4]), ([5, 3, 6, 0, 1, 2, 3, 4, 5, 6], [3, 5])])
def q24z.B6 : List Nat := [0, 1, 0, 7, 0, 0, 63, 127]
theorem q24z.tab6 : rtab .any (opsOf Try.f7 6) = q24z.T6 := by kernel_rfl
theorem q24z.bits6 : waitsOk q24z.T6.2 q24z.B6 = true := by kernel_rfl
def q24z.T7 : Bool × List (List Nat × List Nat) := (true, [([], []), ([], []), ([1], [1]), ([0, 2, 2], [0, 2]), ([3], [3]), ([4, 3], [4]), ([5], [5]), ([5], [5]), ([6, 7, 5, 5], [5, 6, 7]), ([8, 5], [5, 8]), ([5, 9], [5, 9])])
def q24z.B7 : List Nat := [0, 0, 2, 7, 15, 31, 63, 63, 255, 511, 1023]
theorem q24z.tab7 : rtab .any (opsOf Try.f7 7) = q24z.T7 := by kernel_rfl
theorem q24z.bits7 : waitsOk q24z.T7.2 q24z.B7 = true := by kernel_rfl
set_option maxHeartbeats 8000000 in
set_option maxRecDepth 100000 in
theorem q24z.calls (k : Nat) (a0_0 : Int) (a0_1 : Int) (A0_2 : Option Addr) (c0_2 : Nat) (l0_2 : List Int) (A0_3 : Option Addr) (c0_3 : Nat) (l0_3 : List Int) (a0_4 : Int) (a0_5 : Int) (a0_6 : Int) (a0_7 : Int) (r : Bool) (w : World) (hr0_2 : Kd.C (Kd.int .u32) w A0_2 l0_2.length l0_2) (hc0_2 : l0_2.length ≤ c0_2) (hr0_3 : Kd.C (Kd.int .u32) w A0_3 l0_3.length l0_3) (hc0_3 : l0_3.length ≤ c0_3) (h : q24z.f k a0_0 a0_1 l0_2 l0_3 a0_4 a0_5 a0_6 a0_7 = some r) :
  Calls Try.prog 7 #[.agg #[.int .u32 a0_0, .int .i64 a0_1, .slice A0_2 l0_2.length c0_2, .slice A0_3 l0_3.length c0_3, .int .u32 a0_4, .int .u32 a0_5, .int .i64 a0_6, .int .u32 a0_7]] w fun e w' => e = .returned (.bool r) ∧ Below w.heap.size w w' := by
 have hu38 := Try.underlying38
 have HR0_2 := Aside0.mk hr0_2
 have HC0_2 := Aside0.mk hc0_2
 clear hr0_2 hc0_2
 have HR0_3 := Aside0.mk hr0_3
 have HC0_3 := Aside0.mk hc0_3
 clear hr0_3 hc0_3
 have HB := Aside0.mk (Below.refl w.heap.size w)
 have H : ((q15z.f k).bind fun t2 => (if t2 = true then ((q16z.f a0_0 a0_1 l0_2 l0_3 a0_4 a0_5 a0_6 a0_7).bind fun t3 => (if t3 = true then (some true) else ((q17z.f a0_0 a0_1 l0_2 l0_3 a0_4 a0_5 a0_6 a0_7).bind fun bt4 => ((q6z.f k bt4.1 bt4.2.1 bt4.2.2.1 bt4.2.2.2.1 bt4.2.2.2.2.1 bt4.2.2.2.2.2.1 bt4.2.2.2.2.2.2.1 bt4.2.2.2.2.2.2.2).bind fun bt17 => ((q5z.f bt4.1 bt4.2.1 bt4.2.2.1 bt4.2.2.2.1 bt4.2.2.2.2.1 bt4.2.2.2.2.2.1 bt4.2.2.2.2.2.2.1 bt4.2.2.2.2.2.2.2).bind fun bt29 => ((q23z.f k a0_0 a0_1 l0_2 l0_3 a0_4 a0_5 a0_6 a0_7).bind fun bt43 => ((q20z.f k bt17.1 bt17.2.1 bt17.2.2.1 bt17.2.2.2.1 bt17.2.2.2.2.1 bt17.2.2.2.2.2.1 bt17.2.2.2.2.2.2.1 bt17.2.2.2.2.2.2.2 bt43.1 bt43.2.1 bt43.2.2.1 bt43.2.2.2.1 bt43.2.2.2.2.1 bt43.2.2.2.2.2.1 bt43.2.2.2.2.2.2.1 bt43.2.2.2.2.2.2.2).bind fun t55 => (if t55 = 0 then ((q20z.f k bt29.1 bt29.2.1 bt29.2.2.1 bt29.2.2.2.1 bt29.2.2.2.2.1 bt29.2.2.2.2.2.1 bt29.2.2.2.2.2.2.1 bt29.2.2.2.2.2.2.2 a0_0 a0_1 l0_2 l0_3 a0_4 a0_5 a0_6 a0_7).bind fun t56 => (if t56 = 0 then ((q20z.f k bt4.1 bt4.2.1 bt4.2.2.1 bt4.2.2.2.1 bt4.2.2.2.2.1 bt4.2.2.2.2.2.1 bt4.2.2.2.2.2.2.1 bt4.2.2.2.2.2.2.2 a0_0 a0_1 l0_2 l0_3 a0_4 a0_5 a0_6 a0_7).bind fun t57 => (some (t57 == 0))) else (some false))) else (some false))))))))) else (some false))) = some r := h
 clear h
 replace H := Option.bind_eq_some_iff.mp H
 obtain ⟨t2, A20, H⟩ := H
 replace H : (if t2 = true then ((q16z.f a0_0 a0_1 l0_2 l0_3 a0_4 a0_5 a0_6 a0_7).bind fun t3 => (if t3 = true then (some true) else ((q17z.f a0_0 a0_1 l0_2 l0_3 a0_4 a0_5 a0_6 a0_7).bind fun bt4 => ((q6z.f k bt4.1 bt4.2.1 bt4.2.2.1 bt4.2.2.2.1 bt4.2.2.2.2.1 bt4.2.2.2.2.2.1 bt4.2.2.2.2.2.2.1 bt4.2.2.2.2.2.2.2).bind fun bt17 => ((q5z.f bt4.1 bt4.2.1 bt4.2.2.1 bt4.2.2.2.1 bt4.2.2.2.2.1 bt4.2.2.2.2.2.1 bt4.2.2.2.2.2.2.1 bt4.2.2.2.2.2.2.2).bind fun bt29 => ((q23z.f k a0_0 a0_1 l0_2 l0_3 a0_4 a0_5 a0_6 a0_7).bind fun bt43 => ((q20z.f k bt17.1 bt17.2.1 bt17.2.2.1 bt17.2.2.2.1 bt17.2.2.2.2.1 bt17.2.2.2.2.2.1 bt17.2.2.2.2.2.2.1 bt17.2.2.2.2.2.2.2 bt43.1 bt43.2.1 bt43.2.2.1 bt43.2.2.2.1 bt43.2.2.2.2.1 bt43.2.2.2.2.2.1 bt43.2.2.2.2.2.2.1 bt43.2.2.2.2.2.2.2).bind fun t55 => (if t55 = 0 then ((q20z.f k bt29.1 bt29.2.1 bt29.2.2.1 bt29.2.2.2.1 bt29.2.2.2.2.1 bt29.2.2.2.2.2.1 bt29.2.2.2.2.2.2.1 bt29.2.2.2.2.2.2.2 a0_0 a0_1 l0_2 l0_3 a0_4 a0_5 a0_6 a0_7).bind fun t56 => (if t56 = 0 then ((q20z.f k bt4.1 bt4.2.1 bt4.2.2.1 bt4.2.2.2.1 bt4.2.2.2.2.1 bt4.2.2.2.2.2.1 bt4.2.2.2.2.2.2.1 bt4.2.2.2.2.2.2.2 a0_0 a0_1 l0_2 l0_3 a0_4 a0_5 a0_6 a0_7).bind fun t57 => (some (t57 == 0))) else (some false))) else (some false))))))))) else (some false)) = some r := H
 have A2 := Aside0.mk A20
 clear A20
 by_cases c3 : t2 = true
 ·
  subst c3
  have H1 : ((q16z.f a0_0 a0_1 l0_2 l0_3 a0_4 a0_5 a0_6 a0_7).bind fun t3 => (if t3 = true then (some true) else ((q17z.f a0_0 a0_1 l0_2 l0_3 a0_4 a0_5 a0_6 a0_7).bind fun bt4 => ((q6z.f k bt4.1 bt4.2.1 bt4.2.2.1 bt4.2.2.2.1 bt4.2.2.2.2.1 bt4.2.2.2.2.2.1 bt4.2.2.2.2.2.2.1 bt4.2.2.2.2.2.2.2).bind fun bt17 => ((q5z.f bt4.1 bt4.2.1 bt4.2.2.1 bt4.2.2.2.1 bt4.2.2.2.2.1 bt4.2.2.2.2.2.1 bt4.2.2.2.2.2.2.1 bt4.2.2.2.2.2.2.2).bind fun bt29 => ((q23z.f k a0_0 a0_1 l0_2 l0_3 a0_4 a0_5 a0_6 a0_7).bind fun bt43 => ((q20z.f k bt17.1 bt17.2.1 bt17.2.2.1 bt17.2.2.2.1 bt17.2.2.2.2.1 bt17.2.2.2.2.2.1 bt17.2.2.2.2.2.2.1 bt17.2.2.2.2.2.2.2 bt43.1 bt43.2.1 bt43.2.2.1 bt43.2.2.2.1 bt43.2.2.2.2.1 bt43.2.2.2.2.2.1 bt43.2.2.2.2.2.2.1 bt43.2.2.2.2.2.2.2).bind fun t55 => (if t55 = 0 then ((q20z.f k bt29.1 bt29.2.1 bt29.2.2.1 bt29.2.2.2.1 bt29.2.2.2.2.1 bt29.2.2.2.2.2.1 bt29.2.2.2.2.2.2.1 bt29.2.2.2.2.2.2.2 a0_0 a0_1 l0_2 l0_3 a0_4 a0_5 a0_6 a0_7).bind fun t56 => (if t56 = 0 then ((q20z.f k bt4.1 bt4.2.1 bt4.2.2.1 bt4.2.2.2.1 bt4.2.2.2.2.1 bt4.2.2.2.2.2.1 bt4.2.2.2.2.2.2.1 bt4.2.2.2.2.2.2.2 a0_0 a0_1 l0_2 l0_3 a0_4 a0_5 a0_6 a0_7).bind fun t57 => (some (t57 == 0))) else (some false))) else (some false))))))))) = some r := by rw [if_pos rfl] at H; exact H
  clear H
  have H := H1
  clear H1
  replace H := Option.bind_eq_some_iff.mp H
  obtain ⟨t3, A40, H⟩ := H
  replace H : (if t3 = true then (some true) else ((q17z.f a0_0 a0_1 l0_2 l0_3 a0_4 a0_5 a0_6 a0_7).bind fun bt4 => ((q6z.f k bt4.1 bt4.2.1 bt4.2.2.1 bt4.2.2.2.1 bt4.2.2.2.2.1 bt4.2.2.2.2.2.1 bt4.2.2.2.2.2.2.1 bt4.2.2.2.2.2.2.2).bind fun bt17 => ((q5z.f bt4.1 bt4.2.1 bt4.2.2.1 bt4.2.2.2.1 bt4.2.2.2.2.1 bt4.2.2.2.2.2.1 bt4.2.2.2.2.2.2.1 bt4.2.2.2.2.2.2.2).bind fun bt29 => ((q23z.f k a0_0 a0_1 l0_2 l0_3 a0_4 a0_5 a0_6 a0_7).bind fun bt43 => ((q20z.f k bt17.1 bt17.2.1 bt17.2.2.1 bt17.2.2.2.1 bt17.2.2.2.2.1 bt17.2.2.2.2.2.1 bt17.2.2.2.2.2.2.1 bt17.2.2.2.2.2.2.2 bt43.1 bt43.2.1 bt43.2.2.1 bt43.2.2.2.1 bt43.2.2.2.2.1 bt43.2.2.2.2.2.1 bt43.2.2.2.2.2.2.1 bt43.2.2.2.2.2.2.2).bind fun t55 => (if t55 = 0 then ((q20z.f k bt29.1 bt29.2.1 bt29.2.2.1 bt29.2.2.2.1 bt29.2.2.2.2.1 bt29.2.2.2.2.2.1 bt29.2.2.2.2.2.2.1 bt29.2.2.2.2.2.2.2 a0_0 a0_1 l0_2 l0_3 a0_4 a0_5 a0_6 a0_7).bind fun t56 => (if t56 = 0 then ((q20z.f k bt4.1 bt4.2.1 bt4.2.2.1 bt4.2.2.2.1 bt4.2.2.2.2.1 bt4.2.2.2.2.2.1 bt4.2.2.2.2.2.2.1 bt4.2.2.2.2.2.2.2 a0_0 a0_1 l0_2 l0_3 a0_4 a0_5 a0_6 a0_7).bind fun t57 => (some (t57 == 0))) else (some false))) else (some false)))))))) = some r := H
  have A4 := Aside0.mk A40
  clear A40
  by_cases c5 : t3 = true
  ·
   subst c5
   have H1 : (some true) = some r := by rw [if_pos rfl] at H; exact H
   clear H
   have H := H1
   clear H1
   obtain rfl := Option.some.inj H
   go_enter Try.func7, Try.ntmps7
   go_wp2_with (first | ((with_reducible refine gate_dst (N := 1) rfl ?_); refine box_event ?hg (N := 1) ?hd (cs := #[.int .u32 a0_0, .int .i64 a0_1, .slice A0_2 l0_2.length c0_2, .slice A0_3 l0_3.length c0_3, .int .u32 a0_4, .int .u32 a0_5, .int .i64 a0_6, .int .u32 a0_7]) (t := 38) ?hr ?_; (case hd => rfl); (case hg => rfl); (case hr => first | (go_simp; done) | (go_simp; rfl)); intro gb1 hg w6 hbox hb; have BK1 := Aside0.mk (hbox); have GW1 := gwS hg HB; have GE1 := gwS hg HB; replace HB := hbS HB hb; clear hb hbox hg) | ((with_reducible refine gate_callee (f := 29) rfl ?_); refine goesL_ (some 9) rfl rfl Try.func29 (by kernel_rfl) rfl #[] rfl (by (try simp only [List.map_toArray, List.map_cons, List.map_nil]); first | done | rfl | (simp only [List.length_drop, List.length_take]; rfl)) ?_; (with_reducible refine (q15z.calls k  true _ A2.out).mono ?_); rintro e w7 ⟨rfl, hb⟩; refine ⟨_, rfl, ?_⟩; replace BK1 := bkB BK1 hb; replace HB := hbS HB hb; (try clear hb); obtain ⟨hcz8_0, hcz8_1, hcz8_2, hcz8_3, hcz8_4, hcz8_5, hcz8_6, hcz8_7, hfz8_0, hfz8_1, hfz8_2, hfz8_3, hfz8_4, hfz8_5, hfz8_6, hfz8_7⟩ := bc8 BK1) | ((with_reducible refine gate_callee (f := 34) rfl ?_); refine goesL_ (some 12) rfl rfl Try.func34 (by kernel_rfl) rfl #[.agg #[.int .u32 a0_0, .int .i64 a0_1, .slice A0_2 l0_2.length c0_2, .slice A0_3 l0_3.length c0_3, .int .u32 a0_4, .int .u32 a0_5, .int .i64 a0_6, .int .u32 a0_7]] rfl (by (try simp only [List.map_toArray, List.map_cons, List.map_nil]); first | done | rfl | (simp only [List.length_drop, List.length_take]; rfl)) ?_; (with_reducible refine (q16z.calls a0_0 a0_1 _ _ l0_2 _ _ l0_3 a0_4 a0_5 a0_6 a0_7 true _ ?side1 ?side2 ?side3 ?side4 A4.out).mono ?_); (case side1 => repeat (first | exact (Kd.C_below HR0_2.out HB.out) | (with_reducible refine Kd.C_alloc ?_ _) | (with_reducible refine Kd.C_drewN ?_ _) | (with_reducible refine Kd.C_drew ?_))); (case side2 => exact HC0_2.out); (case side3 => repeat (first | exact (Kd.C_below HR0_3.out HB.out) | (with_reducible refine Kd.C_alloc ?_ _) | (with_reducible refine Kd.C_drewN ?_ _) | (with_reducible refine Kd.C_drew ?_))); (case side4 => exact HC0_3.out); rintro e w9 ⟨rfl, hb⟩; refine ⟨_, rfl, ?_⟩; replace BK1 := bkB BK1 hb; replace HB := hbS HB hb; (try clear hb)))
   go_ret
   exact ⟨by first | rfl | (simp [errW_none, errW_some] <;> rfl) | (simp [*, errW_none, errW_some] <;> rfl), hbW HB⟩
  ·
   replace c5 := Bool.eq_false_iff.mpr c5
   subst c5
   have H1 : ((q17z.f a0_0 a0_1 l0_2 l0_3 a0_4 a0_5 a0_6 a0_7).bind fun bt4 => ((q6z.f k bt4.1 bt4.2.1 bt4.2.2.1 bt4.2.2.2.1 bt4.2.2.2.2.1 bt4.2.2.2.2.2.1 bt4.2.2.2.2.2.2.1 bt4.2.2.2.2.2.2.2).bind fun bt17 => ((q5z.f bt4.1 bt4.2.1 bt4.2.2.1 bt4.2.2.2.1 bt4.2.2.2.2.1 bt4.2.2.2.2.2.1 bt4.2.2.2.2.2.2.1 bt4.2.2.2.2.2.2.2).bind fun bt29 => ((q23z.f k a0_0 a0_1 l0_2 l0_3 a0_4 a0_5 a0_6 a0_7).bind fun bt43 => ((q20z.f k bt17.1 bt17.2.1 bt17.2.2.1 bt17.2.2.2.1 bt17.2.2.2.2.1 bt17.2.2.2.2.2.1 bt17.2.2.2.2.2.2.1 bt17.2.2.2.2.2.2.2 bt43.1 bt43.2.1 bt43.2.2.1 bt43.2.2.2.1 bt43.2.2.2.2.1 bt43.2.2.2.2.2.1 bt43.2.2.2.2.2.2.1 bt43.2.2.2.2.2.2.2).bind fun t55 => (if t55 = 0 then ((q20z.f k bt29.1 bt29.2.1 bt29.2.2.1 bt29.2.2.2.1 bt29.2.2.2.2.1 bt29.2.2.2.2.2.1 bt29.2.2.2.2.2.2.1 bt29.2.2.2.2.2.2.2 a0_0 a0_1 l0_2 l0_3 a0_4 a0_5 a0_6 a0_7).bind fun t56 => (if t56 = 0 then ((q20z.f k bt4.1 bt4.2.1 bt4.2.2.1 bt4.2.2.2.1 bt4.2.2.2.2.1 bt4.2.2.2.2.2.1 bt4.2.2.2.2.2.2.1 bt4.2.2.2.2.2.2.2 a0_0 a0_1 l0_2 l0_3 a0_4 a0_5 a0_6 a0_7).bind fun t57 => (some (t57 == 0))) else (some false))) else (some false))))))) = some r := by rw [if_neg (show ¬ (false = true) by decide)] at H; exact H
   clear H
   have H := H1
   clear H1
   replace H := Option.bind_eq_some_iff.mp H
   obtain ⟨⟨t4, t5, t6, t9, t12, t13, t14, t15⟩, A100, H⟩ := H
   replace H : ((q6z.f k t4 t5 t6 t9 t12 t13 t14 t15).bind fun bt17 => ((q5z.f t4 t5 t6 t9 t12 t13 t14 t15).bind fun bt29 => ((q23z.f k a0_0 a0_1 l0_2 l0_3 a0_4 a0_5 a0_6 a0_7).bind fun bt43 => ((q20z.f k bt17.1 bt17.2.1 bt17.2.2.1 bt17.2.2.2.1 bt17.2.2.2.2.1 bt17.2.2.2.2.2.1 bt17.2.2.2.2.2.2.1 bt17.2.2.2.2.2.2.2 bt43.1 bt43.2.1 bt43.2.2.1 bt43.2.2.2.1 bt43.2.2.2.2.1 bt43.2.2.2.2.2.1 bt43.2.2.2.2.2.2.1 bt43.2.2.2.2.2.2.2).bind fun t55 => (if t55 = 0 then ((q20z.f k bt29.1 bt29.2.1 bt29.2.2.1 bt29.2.2.2.1 bt29.2.2.2.2.1 bt29.2.2.2.2.2.1 bt29.2.2.2.2.2.2.1 bt29.2.2.2.2.2.2.2 a0_0 a0_1 l0_2 l0_3 a0_4 a0_5 a0_6 a0_7).bind fun t56 => (if t56 = 0 then ((q20z.f k t4 t5 t6 t9 t12 t13 t14 t15 a0_0 a0_1 l0_2 l0_3 a0_4 a0_5 a0_6 a0_7).bind fun t57 => (some (t57 == 0))) else (some false))) else (some false)))))) = some r := H
   have A10 := Aside0.mk A100
   clear A100
   replace H := Option.bind_eq_some_iff.mp H
   obtain ⟨⟨t17, t18, t19, t22, t25, t26, t27, t28⟩, A110, H⟩ := H
   replace H : ((q5z.f t4 t5 t6 t9 t12 t13 t14 t15).bind fun bt29 => ((q23z.f k a0_0 a0_1 l0_2 l0_3 a0_4 a0_5 a0_6 a0_7).bind fun bt43 => ((q20z.f k t17 t18 t19 t22 t25 t26 t27 t28 bt43.1 bt43.2.1 bt43.2.2.1 bt43.2.2.2.1 bt43.2.2.2.2.1 bt43.2.2.2.2.2.1 bt43.2.2.2.2.2.2.1 bt43.2.2.2.2.2.2.2).bind fun t55 => (if t55 = 0 then ((q20z.f k bt29.1 bt29.2.1 bt29.2.2.1 bt29.2.2.2.1 bt29.2.2.2.2.1 bt29.2.2.2.2.2.1 bt29.2.2.2.2.2.2.1 bt29.2.2.2.2.2.2.2 a0_0 a0_1 l0_2 l0_3 a0_4 a0_5 a0_6 a0_7).bind fun t56 => (if t56 = 0 then ((q20z.f k t4 t5 t6 t9 t12 t13 t14 t15 a0_0 a0_1 l0_2 l0_3 a0_4 a0_5 a0_6 a0_7).bind fun t57 => (some (t57 == 0))) else (some false))) else (some false))))) = some r := H
   have A11 := Aside0.mk A110
   clear A110
   replace H := Option.bind_eq_some_iff.mp H
   obtain ⟨⟨t29, t30, t31, t34, t37, t38, t39, t40⟩, A120, H⟩ := H
   replace H : ((q23z.f k a0_0 a0_1 l0_2 l0_3 a0_4 a0_5 a0_6 a0_7).bind fun bt43 => ((q20z.f k t17 t18 t19 t22 t25 t26 t27 t28 bt43.1 bt43.2.1 bt43.2.2.1 bt43.2.2.2.1 bt43.2.2.2.2.1 bt43.2.2.2.2.2.1 bt43.2.2.2.2.2.2.1 bt43.2.2.2.2.2.2.2).bind fun t55 => (if t55 = 0 then ((q20z.f k t29 t30 t31 t34 t37 t38 t39 t40 a0_0 a0_1 l0_2 l0_3 a0_4 a0_5 a0_6 a0_7).bind fun t56 => (if t56 = 0 then ((q20z.f k t4 t5 t6 t9 t12 t13 t14 t15 a0_0 a0_1 l0_2 l0_3 a0_4 a0_5 a0_6 a0_7).bind fun t57 => (some (t57 == 0))) else (some false))) else (some false)))) = some r := H
   have A12 := Aside0.mk A120
   clear A120
   replace H := Option.bind_eq_some_iff.mp H
   obtain ⟨⟨t43, t44, t45, t48, t51, t52, t53, t54⟩, A130, H⟩ := H
   replace H : ((q20z.f k t17 t18 t19 t22 t25 t26 t27 t28 t43 t44 t45 t48 t51 t52 t53 t54).bind fun t55 => (if t55 = 0 then ((q20z.f k t29 t30 t31 t34 t37 t38 t39 t40 a0_0 a0_1 l0_2 l0_3 a0_4 a0_5 a0_6 a0_7).bind fun t56 => (if t56 = 0 then ((q20z.f k t4 t5 t6 t9 t12 t13 t14 t15 a0_0 a0_1 l0_2 l0_3 a0_4 a0_5 a0_6 a0_7).bind fun t57 => (some (t57 == 0))) else (some false))) else (some false))) = some r := H
   have A13 := Aside0.mk A130
   clear A130
   replace H := Option.bind_eq_some_iff.mp H
   obtain ⟨t55, A140, H⟩ := H
   replace H : (if t55 = 0 then ((q20z.f k t29 t30 t31 t34 t37 t38 t39 t40 a0_0 a0_1 l0_2 l0_3 a0_4 a0_5 a0_6 a0_7).bind fun t56 => (if t56 = 0 then ((q20z.f k t4 t5 t6 t9 t12 t13 t14 t15 a0_0 a0_1 l0_2 l0_3 a0_4 a0_5 a0_6 a0_7).bind fun t57 => (some (t57 == 0))) else (some false))) else (some false)) = some r := H
   have A14 := Aside0.mk A140
   clear A140
   have HP_ := Aside0.mk H
   clear H
   go_enter Try.func7, Try.ntmps7
   try go_wp2_with (first | ((with_reducible refine gate_dst (N := 1) rfl ?_); refine box_event ?hg (N := 1) ?hd (cs := #[.int .u32 a0_0, .int .i64 a0_1, .slice A0_2 l0_2.length c0_2, .slice A0_3 l0_3.length c0_3, .int .u32 a0_4, .int .u32 a0_5, .int .i64 a0_6, .int .u32 a0_7]) (t := 38) ?hr ?_; (case hd => rfl); (case hg => rfl); (case hr => first | (go_simp; done) | (go_simp; rfl)); intro gb1 hg w19 hbox hb; have BK1 := Aside0.mk (hbox); have GW1 := gwS hg HB; have GE1 := gwS hg HB; replace HB := hbS HB hb; clear hb hbox hg) | ((with_reducible refine gate_callee (f := 29) rfl ?_); refine goesL_ (some 9) rfl rfl Try.func29 (by kernel_rfl) rfl #[] rfl (by (try simp only [List.map_toArray, List.map_cons, List.map_nil]); first | done | rfl | (simp only [List.length_drop, List.length_take]; rfl)) ?_; (with_reducible refine (q15z.calls k  true _ A2.out).mono ?_); rintro e w20 ⟨rfl, hb⟩; refine ⟨_, rfl, ?_⟩; replace BK1 := bkB BK1 hb; replace HB := hbS HB hb; (try clear hb); obtain ⟨hcz21_0, hcz21_1, hcz21_2, hcz21_3, hcz21_4, hcz21_5, hcz21_6, hcz21_7, hfz21_0, hfz21_1, hfz21_2, hfz21_3, hfz21_4, hfz21_5, hfz21_6, hfz21_7⟩ := bc8 BK1) | ((with_reducible refine gate_callee (f := 34) rfl ?_); refine goesL_ (some 12) rfl rfl Try.func34 (by kernel_rfl) rfl #[.agg #[.int .u32 a0_0, .int .i64 a0_1, .slice A0_2 l0_2.length c0_2, .slice A0_3 l0_3.length c0_3, .int .u32 a0_4, .int .u32 a0_5, .int .i64 a0_6, .int .u32 a0_7]] rfl (by (try simp only [List.map_toArray, List.map_cons, List.map_nil]); first | done | rfl | (simp only [List.length_drop, List.length_take]; rfl)) ?_; (with_reducible refine (q16z.calls a0_0 a0_1 _ _ l0_2 _ _ l0_3 a0_4 a0_5 a0_6 a0_7 false _ ?side1 ?side2 ?side3 ?side4 A4.out).mono ?_); (case side1 => repeat (first | exact (Kd.C_below HR0_2.out HB.out) | (with_reducible refine Kd.C_alloc ?_ _) | (with_reducible refine Kd.C_drewN ?_ _) | (with_reducible refine Kd.C_drew ?_))); (case side2 => exact HC0_2.out); (case side3 => repeat (first | exact (Kd.C_below HR0_3.out HB.out) | (with_reducible refine Kd.C_alloc ?_ _) | (with_reducible refine Kd.C_drewN ?_ _) | (with_reducible refine Kd.C_drew ?_))); (case side4 => exact HC0_3.out); rintro e w22 ⟨rfl, hb⟩; refine ⟨_, rfl, ?_⟩; replace BK1 := bkB BK1 hb; replace HB := hbS HB hb; (try clear hb); obtain ⟨hcz23_0, hcz23_1, hcz23_2, hcz23_3, hcz23_4, hcz23_5, hcz23_6, hcz23_7, hfz23_0, hfz23_1, hfz23_2, hfz23_3, hfz23_4, hfz23_5, hfz23_6, hfz23_7⟩ := bc8 BK1) | ((with_reducible refine gate_callee (f := 35) rfl ?_); refine goesL_ (some 14) rfl rfl Try.func35 (by kernel_rfl) rfl #[.agg #[.int .u32 a0_0, .int .i64 a0_1, .slice A0_2 l0_2.length c0_2, .slice A0_3 l0_3.length c0_3, .int .u32 a0_4, .int .u32 a0_5, .int .i64 a0_6, .int .u32 a0_7]] rfl (by (try simp only [List.map_toArray, List.map_cons, List.map_nil]); first | done | rfl | (simp only [List.length_drop, List.length_take]; rfl)) ?_; (with_reducible refine (q17z.calls a0_0 a0_1 _ _ l0_2 _ _ l0_3 a0_4 a0_5 a0_6 a0_7 t4 t5 t6 t9 t12 t13 t14 t15 _ ?side1 ?side2 ?side3 ?side4 A10.out).mono ?_); (case side1 => repeat (first | exact (Kd.C_below HR0_2.out HB.out) | (with_reducible refine Kd.C_alloc ?_ _) | (with_reducible refine Kd.C_drewN ?_ _) | (with_reducible refine Kd.C_drew ?_))); (case side2 => exact HC0_2.out); (case side3 => repeat (first | exact (Kd.C_below HR0_3.out HB.out) | (with_reducible refine Kd.C_alloc ?_ _) | (with_reducible refine Kd.C_drewN ?_ _) | (with_reducible refine Kd.C_drew ?_))); (case side4 => exact HC0_3.out); rintro e w24 ⟨v7, v10, rfl, ho0, ho1, hb⟩; refine ⟨_, rfl, ?_⟩; have HO8 := Aside0.mk (Kd.R_lower ho0 (below_size (hbW HB))); have HO11 := Aside0.mk (Kd.R_lower ho1 (below_size (hbW HB))); replace BK1 := bkB BK1 hb; replace HB := hbS HB hb; (try clear hb); (try clear ho0); (try clear ho1)) | ((with_reducible refine gate_dst (N := 3) rfl ?_); refine box_event ?hg (N := 3) ?hd (cs := #[.int .u32 0, .int .i64 0, .slice none 0 0, .slice none 0 0, .int .u32 0, .int .u32 0, .int .i64 0, .int .u32 0]) (t := 38) ?hr ?_; (case hd => rfl); (case hg => rfl); (case hr => first | (go_simp; done) | (go_simp; rfl)); intro gb16 hg w25 hbox hb; have BK16 := Aside0.mk (hbox); have GW16 := gwS hg HB; have GE16 := gwS hg HB; have NB1_16 := nbL hg BK1; have NB16_1 := nbG hg BK1; replace HO8 := Aside0.mk (Kd.R_below (rW HO8) hb); replace HO11 := Aside0.mk (Kd.R_below (rW HO11) hb); replace BK1 := bkB BK1 hb; replace HB := hbS HB hb; clear hb hbox hg; have hnb26 := NB16_1.out; have hnc26 := NB1_16.out; obtain ⟨hcz27_0, hcz27_1, hcz27_2, hcz27_3, hcz27_4, hcz27_5, hcz27_6, hcz27_7, hfz27_0, hfz27_1, hfz27_2, hfz27_3, hfz27_4, hfz27_5, hfz27_6, hfz27_7⟩ := bc8 BK16; obtain ⟨Ao28, co28, eo28⟩ := Kd.R_slice HO8.out; subst eo28; obtain ⟨Ao29, co29, eo29⟩ := Kd.R_slice HO11.out; subst eo29))
   have n0_ : Aside0 (Kd.R (Kd.int .u32) 33 ((((((((w25.setCell ⟨gb16, 0, none⟩ (.int .u32 t4)).setCell ⟨gb16, 1, none⟩ (.int .i64 t5)).setCell ⟨gb16, 2, none⟩ (.slice Ao28 t6.length co28)).setCell ⟨gb16, 3, none⟩ (.slice Ao29 t9.length co29)).setCell ⟨gb16, 4, none⟩ (.int .u32 t12)).setCell ⟨gb16, 5, none⟩ (.int .u32 t13)).setCell ⟨gb16, 6, none⟩ (.int .i64 t14)).setCell ⟨gb16, 7, none⟩ (.int .u32 t15)) w.heap.size (fun k_ => some k_ ≠ (.slice Ao29 t9.length co29 : Value).ownBlock) (.slice Ao28 t6.length co28) t6) := ⟨moR (rW HO8)⟩
   have n1_ : Aside0 (Kd.R (Kd.int .u32) 33 ((((((((w25.setCell ⟨gb16, 0, none⟩ (.int .u32 t4)).setCell ⟨gb16, 1, none⟩ (.int .i64 t5)).setCell ⟨gb16, 2, none⟩ (.slice Ao28 t6.length co28)).setCell ⟨gb16, 3, none⟩ (.slice Ao29 t9.length co29)).setCell ⟨gb16, 4, none⟩ (.int .u32 t12)).setCell ⟨gb16, 5, none⟩ (.int .u32 t13)).setCell ⟨gb16, 6, none⟩ (.int .i64 t14)).setCell ⟨gb16, 7, none⟩ (.int .u32 t15)) w.heap.size (fun k_ => some k_ ≠ (.slice Ao28 t6.length co28 : Value).ownBlock) (.slice Ao29 t9.length co29) t9) := ⟨moR (rW HO11)⟩
   have n2_ : Aside0 (((((((((w25.setCell ⟨gb16, 0, none⟩ (.int .u32 t4)).setCell ⟨gb16, 1, none⟩ (.int .i64 t5)).setCell ⟨gb16, 2, none⟩ (.slice Ao28 t6.length co28)).setCell ⟨gb16, 3, none⟩ (.slice Ao29 t9.length co29)).setCell ⟨gb16, 4, none⟩ (.int .u32 t12)).setCell ⟨gb16, 5, none⟩ (.int .u32 t13)).setCell ⟨gb16, 6, none⟩ (.int .i64 t14)).setCell ⟨gb16, 7, none⟩ (.int .u32 t15)).heap[gb1]? = some (.cells #[.int .u32 a0_0, .int .i64 a0_1, .slice A0_2 l0_2.length c0_2, .slice A0_3 l0_3.length c0_3, .int .u32 a0_4, .int .u32 a0_5, .int .i64 a0_6, .int .u32 a0_7] 38 (0, 0))) := ⟨by (with_reducible repeat (first | refine blk_drewN ?_ _ | refine blk_drew ?_ | refine blk_alloc ?_ _)); refine blk_far ?_ NB1_16.out _; (with_reducible repeat (first | refine blk_drewN ?_ _ | refine blk_drew ?_ | refine blk_alloc ?_ _)); refine blk_far ?_ NB1_16.out _; (with_reducible repeat (first | refine blk_drewN ?_ _ | refine blk_drew ?_ | refine blk_alloc ?_ _)); refine blk_far ?_ NB1_16.out _; (with_reducible repeat (first | refine blk_drewN ?_ _ | refine blk_drew ?_ | refine blk_alloc ?_ _)); refine blk_far ?_ NB1_16.out _; (with_reducible repeat (first | refine blk_drewN ?_ _ | refine blk_drew ?_ | refine blk_alloc ?_ _)); refine blk_far ?_ NB1_16.out _; (with_reducible repeat (first | refine blk_drewN ?_ _ | refine blk_drew ?_ | refine blk_alloc ?_ _)); refine blk_far ?_ NB1_16.out _; (with_reducible repeat (first | refine blk_drewN ?_ _ | refine blk_drew ?_ | refine blk_alloc ?_ _)); refine blk_far ?_ NB1_16.out _; (with_reducible repeat (first | refine blk_drewN ?_ _ | refine blk_drew ?_ | refine blk_alloc ?_ _)); refine blk_far ?_ NB1_16.out _; (with_reducible repeat (first | refine blk_drewN ?_ _ | refine blk_drew ?_ | refine blk_alloc ?_ _)); exact BK1.out⟩
   have n3_ : Aside0 (((((((((w25.setCell ⟨gb16, 0, none⟩ (.int .u32 t4)).setCell ⟨gb16, 1, none⟩ (.int .i64 t5)).setCell ⟨gb16, 2, none⟩ (.slice Ao28 t6.length co28)).setCell ⟨gb16, 3, none⟩ (.slice Ao29 t9.length co29)).setCell ⟨gb16, 4, none⟩ (.int .u32 t12)).setCell ⟨gb16, 5, none⟩ (.int .u32 t13)).setCell ⟨gb16, 6, none⟩ (.int .i64 t14)).setCell ⟨gb16, 7, none⟩ (.int .u32 t15)).heap[gb16]? = some (.cells #[.int .u32 t4, .int .i64 t5, .slice Ao28 t6.length co28, .slice Ao29 t9.length co29, .int .u32 t12, .int .u32 t13, .int .i64 t14, .int .u32 t15] 38 (0, 0))) := ⟨by (with_reducible repeat (first | refine blk_drewN ?_ _ | refine blk_drew ?_ | refine blk_alloc ?_ _)); refine blk_put (cs := #[.int .u32 t4, .int .i64 t5, .slice Ao28 t6.length co28, .slice Ao29 t9.length co29, .int .u32 t12, .int .u32 t13, .int .i64 t14, .int .u32 0]) ?_ 7 _ rfl; (with_reducible repeat (first | refine blk_drewN ?_ _ | refine blk_drew ?_ | refine blk_alloc ?_ _)); refine blk_put (cs := #[.int .u32 t4, .int .i64 t5, .slice Ao28 t6.length co28, .slice Ao29 t9.length co29, .int .u32 t12, .int .u32 t13, .int .i64 0, .int .u32 0]) ?_ 6 _ rfl; (with_reducible repeat (first | refine blk_drewN ?_ _ | refine blk_drew ?_ | refine blk_alloc ?_ _)); refine blk_put (cs := #[.int .u32 t4, .int .i64 t5, .slice Ao28 t6.length co28, .slice Ao29 t9.length co29, .int .u32 t12, .int .u32 0, .int .i64 0, .int .u32 0]) ?_ 5 _ rfl; (with_reducible repeat (first | refine blk_drewN ?_ _ | refine blk_drew ?_ | refine blk_alloc ?_ _)); refine blk_put (cs := #[.int .u32 t4, .int .i64 t5, .slice Ao28 t6.length co28, .slice Ao29 t9.length co29, .int .u32 0, .int .u32 0, .int .i64 0, .int .u32 0]) ?_ 4 _ rfl; (with_reducible repeat (first | refine blk_drewN ?_ _ | refine blk_drew ?_ | refine blk_alloc ?_ _)); refine blk_put (cs := #[.int .u32 t4, .int .i64 t5, .slice Ao28 t6.length co28, .slice none 0 0, .int .u32 0, .int .u32 0, .int .i64 0, .int .u32 0]) ?_ 3 _ rfl; (with_reducible repeat (first | refine blk_drewN ?_ _ | refine blk_drew ?_ | refine blk_alloc ?_ _)); refine blk_put (cs := #[.int .u32 t4, .int .i64 t5, .slice none 0 0, .slice none 0 0, .int .u32 0, .int .u32 0, .int .i64 0, .int .u32 0]) ?_ 2 _ rfl; (with_reducible repeat (first | refine blk_drewN ?_ _ | refine blk_drew ?_ | refine blk_alloc ?_ _)); refine blk_put (cs := #[.int .u32 t4, .int .i64 0, .slice none 0 0, .slice none 0 0, .int .u32 0, .int .u32 0, .int .i64 0, .int .u32 0]) ?_ 1 _ rfl; (with_reducible repeat (first | refine blk_drewN ?_ _ | refine blk_drew ?_ | refine blk_alloc ?_ _)); refine blk_put (cs := #[.int .u32 0, .int .i64 0, .slice none 0 0, .slice none 0 0, .int .u32 0, .int .u32 0, .int .i64 0, .int .u32 0]) ?_ 0 _ rfl; (with_reducible repeat (first | refine blk_drewN ?_ _ | refine blk_drew ?_ | refine blk_alloc ?_ _)); exact BK16.out⟩
   have n4_ : Aside0 (Below w.heap.size w ((((((((w25.setCell ⟨gb16, 0, none⟩ (.int .u32 t4)).setCell ⟨gb16, 1, none⟩ (.int .i64 t5)).setCell ⟨gb16, 2, none⟩ (.slice Ao28 t6.length co28)).setCell ⟨gb16, 3, none⟩ (.slice Ao29 t9.length co29)).setCell ⟨gb16, 4, none⟩ (.int .u32 t12)).setCell ⟨gb16, 5, none⟩ (.int .u32 t13)).setCell ⟨gb16, 6, none⟩ (.int .i64 t14)).setCell ⟨gb16, 7, none⟩ (.int .u32 t15))) := ⟨hbW HB⟩
   (try clear HO8)
   (try clear HO11)
   (try clear BK1)
   (try clear BK16)
   (try clear HB)
   generalize ((((((((w25.setCell ⟨gb16, 0, none⟩ (.int .u32 t4)).setCell ⟨gb16, 1, none⟩ (.int .i64 t5)).setCell ⟨gb16, 2, none⟩ (.slice Ao28 t6.length co28)).setCell ⟨gb16, 3, none⟩ (.slice Ao29 t9.length co29)).setCell ⟨gb16, 4, none⟩ (.int .u32 t12)).setCell ⟨gb16, 5, none⟩ (.int .u32 t13)).setCell ⟨gb16, 6, none⟩ (.int .i64 t14)).setCell ⟨gb16, 7, none⟩ (.int .u32 t15)) = w30 at n0_ n1_ n2_ n3_ n4_ ⊢
   have HO8 := n0_
   have HO11 := n1_
   have BK1 := n2_
   have BK16 := n3_
   have HB := n4_
   clear n0_ n1_ n2_ n3_ n4_
   replace HO8 := Aside0.mk (Kd.R_drew HO8.out)
   replace HO11 := Aside0.mk (Kd.R_drew HO11.out)
   replace BK1 := Aside0.mk (blk_drew BK1.out)
   replace BK16 := Aside0.mk (blk_drew BK16.out)
   replace HB := Aside0.mk (below_drew1 HB.out)
   refine start_ (n := 8) (S := fun w' => w'.cell? ⟨gb16, 0, none⟩ = some (.int .u32 t4) ∧ w'.cell? ⟨gb16, 1, none⟩ = some (.int .i64 t5) ∧ w'.cell? ⟨gb16, 2, none⟩ = some (.slice Ao28 t6.length co28) ∧ w'.cell? ⟨gb16, 3, none⟩ = some (.slice Ao29 t9.length co29) ∧ w'.cell? ⟨gb16, 4, none⟩ = some (.int .u32 t12) ∧ w'.cell? ⟨gb16, 5, none⟩ = some (.int .u32 t13) ∧ w'.cell? ⟨gb16, 6, none⟩ = some (.int .i64 t14) ∧ w'.cell? ⟨gb16, 7, none⟩ = some (.int .u32 t15)) (ds := []) #[false, false, false, false, false, false, false, false] (by kernel_rfl) rfl rfl (bl8 BK16) (fun hHeld => ?_); refine with_tabW q24z.tab6 q24z.bits6 (fun HT_ HW_ => ?_)
   generalize w30.drew = w31 at HO8 HO11 BK1 BK16 HB hHeld ⊢
   refine take_ (i := 0) (N := some 15) (v := ?_) (a' := ?_) #[true, false, false, false, false, false, false, false] rfl rfl (take_ofW HT_.out HW_.out (by kernel_rfl)) (fun _ _ _ h => h) (Or.inl ⟨by rfl, ?_⟩) hHeld ?_ ?_
   rotate_left
   ·
    rintro w' ⟨s0, s1, s2, s3, s4, s5, s6, s7⟩
    go_simp
    with_reducible rfl
   rotate_left
   ·
    simp only [Act.put, List.setIfInBounds_toArray, List.set_cons_zero, List.set_cons_succ, i64_w, i32_w, IntKind.wrap_u32]
    rfl
   refine take_ (i := 2) (N := some 17) (v := ?_) (a' := ?_) #[true, false, true, false, false, false, false, false] rfl rfl (take_ofW HT_.out HW_.out (by kernel_rfl)) (fun _ _ _ h => h) (Or.inl ⟨by rfl, ?_⟩) hHeld ?_ ?_
   rotate_left
   ·
    rintro w' ⟨s0, s1, s2, s3, s4, s5, s6, s7⟩
    go_simp
    with_reducible rfl
   rotate_left
   ·
    simp only [Act.put, List.setIfInBounds_toArray, List.set_cons_zero, List.set_cons_succ, i64_w, i32_w, IntKind.wrap_u32]
    rfl
   refine join_ (σ := Value × Value × Value × Value × Nat × Nat) 2 #[true, true, true, true, true, true, false, false] (fun s_ => [(16, .agg #[.int .u32 t17, .int .i64 t18, s_.1, s_.2.1, .int .u32 t25, .int .u32 t26, .int .i64 t27, .int .u32 t28]), (18, .agg #[.int .u32 t29, .int .i64 t30, s_.2.2.1, s_.2.2.2.1, .int .u32 t37, .int .u32 t38, .int .i64 t39, .int .u32 t40]), (4, .pointer (some ⟨s_.2.2.2.2.1, 0, none⟩)), (5, .pointer (some ⟨s_.2.2.2.2.2, 0, none⟩))]) (fun s_ w' => (w'.cell? ⟨gb16, 0, none⟩ = some (.int .u32 t4) ∧ w'.cell? ⟨gb16, 1, none⟩ = some (.int .i64 t5) ∧ w'.cell? ⟨gb16, 2, none⟩ = some (.slice Ao28 t6.length co28) ∧ w'.cell? ⟨gb16, 3, none⟩ = some (.slice Ao29 t9.length co29) ∧ w'.cell? ⟨gb16, 4, none⟩ = some (.int .u32 t12) ∧ w'.cell? ⟨gb16, 5, none⟩ = some (.int .u32 t13) ∧ w'.cell? ⟨gb16, 6, none⟩ = some (.int .i64 t14) ∧ w'.cell? ⟨gb16, 7, none⟩ = some (.int .u32 t15)) ∧ (Kd.R (Kd.int .u32) 33 w' w.heap.size (fun k_ => some k_ ≠ (s_.1 : Value).ownBlock ∧ some k_ ≠ (s_.2.1 : Value).ownBlock ∧ some k_ ≠ (s_.2.2.1 : Value).ownBlock ∧ some k_ ≠ (s_.2.2.2.1 : Value).ownBlock ∧ some k_ ≠ (.slice Ao28 t6.length co28 : Value).ownBlock) (.slice Ao29 t9.length co29) t9) ∧ (Kd.R (Kd.int .u32) 33 w' w.heap.size (fun k_ => some k_ ≠ (.slice Ao29 t9.length co29 : Value).ownBlock ∧ some k_ ≠ (s_.2.1 : Value).ownBlock ∧ some k_ ≠ (s_.2.2.1 : Value).ownBlock ∧ some k_ ≠ (s_.2.2.2.1 : Value).ownBlock ∧ some k_ ≠ (.slice Ao28 t6.length co28 : Value).ownBlock) s_.1 t19) ∧ (Kd.R (Kd.int .u32) 33 w' w.heap.size (fun k_ => some k_ ≠ (.slice Ao29 t9.length co29 : Value).ownBlock ∧ some k_ ≠ (s_.1 : Value).ownBlock ∧ some k_ ≠ (s_.2.2.1 : Value).ownBlock ∧ some k_ ≠ (s_.2.2.2.1 : Value).ownBlock ∧ some k_ ≠ (.slice Ao28 t6.length co28 : Value).ownBlock) s_.2.1 t22) ∧ (Kd.R (Kd.int .u32) 33 w' w.heap.size (fun k_ => some k_ ≠ (.slice Ao29 t9.length co29 : Value).ownBlock ∧ some k_ ≠ (s_.1 : Value).ownBlock ∧ some k_ ≠ (s_.2.1 : Value).ownBlock ∧ some k_ ≠ (s_.2.2.2.1 : Value).ownBlock ∧ some k_ ≠ (.slice Ao28 t6.length co28 : Value).ownBlock) s_.2.2.1 t31) ∧ (Kd.R (Kd.int .u32) 33 w' w.heap.size (fun k_ => some k_ ≠ (.slice Ao29 t9.length co29 : Value).ownBlock ∧ some k_ ≠ (s_.1 : Value).ownBlock ∧ some k_ ≠ (s_.2.1 : Value).ownBlock ∧ some k_ ≠ (s_.2.2.1 : Value).ownBlock ∧ some k_ ≠ (.slice Ao28 t6.length co28 : Value).ownBlock) s_.2.2.2.1 t34) ∧ (Kd.R (Kd.int .u32) 33 w' w.heap.size (fun k_ => some k_ ≠ (.slice Ao29 t9.length co29 : Value).ownBlock ∧ some k_ ≠ (s_.1 : Value).ownBlock ∧ some k_ ≠ (s_.2.1 : Value).ownBlock ∧ some k_ ≠ (s_.2.2.1 : Value).ownBlock ∧ some k_ ≠ (s_.2.2.2.1 : Value).ownBlock) (.slice Ao28 t6.length co28) t6) ∧ (w'.heap[gb1]? = some (.cells #[.int .u32 a0_0, .int .i64 a0_1, .slice A0_2 l0_2.length c0_2, .slice A0_3 l0_3.length c0_3, .int .u32 a0_4, .int .u32 a0_5, .int .i64 a0_6, .int .u32 a0_7] 38 (0, 0))) ∧ (w'.heap[gb16]? = some (.cells #[.int .u32 t4, .int .i64 t5, .slice Ao28 t6.length co28, .slice Ao29 t9.length co29, .int .u32 t12, .int .u32 t13, .int .i64 t14, .int .u32 t15] 38 (0, 0))) ∧ (w'.heap[s_.2.2.2.2.1]? = some (.cells #[.int .u32 0, .int .i64 0, .slice none 0 0, .slice none 0 0, .int .u32 0, .int .u32 0, .int .i64 0, .int .u32 0] 38 (0, 0))) ∧ (w'.heap[s_.2.2.2.2.2]? = some (.cells #[.int .u32 0, .int .i64 0, .slice none 0 0, .slice none 0 0, .int .u32 0, .int .u32 0, .int .i64 0, .int .u32 0] 38 (0, 0))) ∧ (w.heap.size ≤ s_.2.2.2.2.1) ∧ (w.heap.size ≤ s_.2.2.2.2.1) ∧ (gb1 ≠ s_.2.2.2.2.1) ∧ (s_.2.2.2.2.1 ≠ gb1) ∧ (gb16 ≠ s_.2.2.2.2.1) ∧ (s_.2.2.2.2.1 ≠ gb16) ∧ (s_.2.2.2.2.2 ≠ s_.2.2.2.2.1) ∧ (s_.2.2.2.2.1 ≠ s_.2.2.2.2.2) ∧ (w.heap.size ≤ s_.2.2.2.2.2) ∧ (w.heap.size ≤ s_.2.2.2.2.2) ∧ (gb1 ≠ s_.2.2.2.2.2) ∧ (s_.2.2.2.2.2 ≠ gb1) ∧ (gb16 ≠ s_.2.2.2.2.2) ∧ (s_.2.2.2.2.2 ≠ gb16) ∧ (Below w.heap.size w w')) ?_ ?_
   rotate_left
   ·
    intro hJ1_3_4_5
    refine join_ (σ := Value × Value × Value × Value × Nat) 3 #[true, true, true, true, true, false, false, false] (fun s_ => [(16, .agg #[.int .u32 t17, .int .i64 t18, s_.1, s_.2.1, .int .u32 t25, .int .u32 t26, .int .i64 t27, .int .u32 t28]), (18, .agg #[.int .u32 t29, .int .i64 t30, s_.2.2.1, s_.2.2.2.1, .int .u32 t37, .int .u32 t38, .int .i64 t39, .int .u32 t40]), (4, .pointer (some ⟨s_.2.2.2.2, 0, none⟩))]) (fun s_ w' => (w'.cell? ⟨gb16, 0, none⟩ = some (.int .u32 t4) ∧ w'.cell? ⟨gb16, 1, none⟩ = some (.int .i64 t5) ∧ w'.cell? ⟨gb16, 2, none⟩ = some (.slice Ao28 t6.length co28) ∧ w'.cell? ⟨gb16, 3, none⟩ = some (.slice Ao29 t9.length co29) ∧ w'.cell? ⟨gb16, 4, none⟩ = some (.int .u32 t12) ∧ w'.cell? ⟨gb16, 5, none⟩ = some (.int .u32 t13) ∧ w'.cell? ⟨gb16, 6, none⟩ = some (.int .i64 t14) ∧ w'.cell? ⟨gb16, 7, none⟩ = some (.int .u32 t15)) ∧ (Kd.R (Kd.int .u32) 33 w' w.heap.size (fun k_ => some k_ ≠ (s_.1 : Value).ownBlock ∧ some k_ ≠ (s_.2.1 : Value).ownBlock ∧ some k_ ≠ (s_.2.2.1 : Value).ownBlock ∧ some k_ ≠ (s_.2.2.2.1 : Value).ownBlock ∧ some k_ ≠ (.slice Ao28 t6.length co28 : Value).ownBlock) (.slice Ao29 t9.length co29) t9) ∧ (Kd.R (Kd.int .u32) 33 w' w.heap.size (fun k_ => some k_ ≠ (.slice Ao29 t9.length co29 : Value).ownBlock ∧ some k_ ≠ (s_.2.1 : Value).ownBlock ∧ some k_ ≠ (s_.2.2.1 : Value).ownBlock ∧ some k_ ≠ (s_.2.2.2.1 : Value).ownBlock ∧ some k_ ≠ (.slice Ao28 t6.length co28 : Value).ownBlock) s_.1 t19) ∧ (Kd.R (Kd.int .u32) 33 w' w.heap.size (fun k_ => some k_ ≠ (.slice Ao29 t9.length co29 : Value).ownBlock ∧ some k_ ≠ (s_.1 : Value).ownBlock ∧ some k_ ≠ (s_.2.2.1 : Value).ownBlock ∧ some k_ ≠ (s_.2.2.2.1 : Value).ownBlock ∧ some k_ ≠ (.slice Ao28 t6.length co28 : Value).ownBlock) s_.2.1 t22) ∧ (Kd.R (Kd.int .u32) 33 w' w.heap.size (fun k_ => some k_ ≠ (.slice Ao29 t9.length co29 : Value).ownBlock ∧ some k_ ≠ (s_.1 : Value).ownBlock ∧ some k_ ≠ (s_.2.1 : Value).ownBlock ∧ some k_ ≠ (s_.2.2.2.1 : Value).ownBlock ∧ some k_ ≠ (.slice Ao28 t6.length co28 : Value).ownBlock) s_.2.2.1 t31) ∧ (Kd.R (Kd.int .u32) 33 w' w.heap.size (fun k_ => some k_ ≠ (.slice Ao29 t9.length co29 : Value).ownBlock ∧ some k_ ≠ (s_.1 : Value).ownBlock ∧ some k_ ≠ (s_.2.1 : Value).ownBlock ∧ some k_ ≠ (s_.2.2.1 : Value).ownBlock ∧ some k_ ≠ (.slice Ao28 t6.length co28 : Value).ownBlock) s_.2.2.2.1 t34) ∧ (Kd.R (Kd.int .u32) 33 w' w.heap.size (fun k_ => some k_ ≠ (.slice Ao29 t9.length co29 : Value).ownBlock ∧ some k_ ≠ (s_.1 : Value).ownBlock ∧ some k_ ≠ (s_.2.1 : Value).ownBlock ∧ some k_ ≠ (s_.2.2.1 : Value).ownBlock ∧ some k_ ≠ (s_.2.2.2.1 : Value).ownBlock) (.slice Ao28 t6.length co28) t6) ∧ (w'.heap[gb1]? = some (.cells #[.int .u32 a0_0, .int .i64 a0_1, .slice A0_2 l0_2.length c0_2, .slice A0_3 l0_3.length c0_3, .int .u32 a0_4, .int .u32 a0_5, .int .i64 a0_6, .int .u32 a0_7] 38 (0, 0))) ∧ (w'.heap[gb16]? = some (.cells #[.int .u32 t4, .int .i64 t5, .slice Ao28 t6.length co28, .slice Ao29 t9.length co29, .int .u32 t12, .int .u32 t13, .int .i64 t14, .int .u32 t15] 38 (0, 0))) ∧ (w'.heap[s_.2.2.2.2]? = some (.cells #[.int .u32 0, .int .i64 0, .slice none 0 0, .slice none 0 0, .int .u32 0, .int .u32 0, .int .i64 0, .int .u32 0] 38 (0, 0))) ∧ (w.heap.size ≤ s_.2.2.2.2) ∧ (w.heap.size ≤ s_.2.2.2.2) ∧ (gb1 ≠ s_.2.2.2.2) ∧ (s_.2.2.2.2 ≠ gb1) ∧ (gb16 ≠ s_.2.2.2.2) ∧ (s_.2.2.2.2 ≠ gb16) ∧ (Below w.heap.size w w')) ?_ ?_
    rotate_left
    ·
     intro hJ1_3_4
     refine join_ (σ := Value × Value × Value × Value × Nat) 3 #[true, true, true, true, false, true, false, false] (fun s_ => [(16, .agg #[.int .u32 t17, .int .i64 t18, s_.1, s_.2.1, .int .u32 t25, .int .u32 t26, .int .i64 t27, .int .u32 t28]), (18, .agg #[.int .u32 t29, .int .i64 t30, s_.2.2.1, s_.2.2.2.1, .int .u32 t37, .int .u32 t38, .int .i64 t39, .int .u32 t40]), (5, .pointer (some ⟨s_.2.2.2.2, 0, none⟩))]) (fun s_ w' => (w'.cell? ⟨gb16, 0, none⟩ = some (.int .u32 t4) ∧ w'.cell? ⟨gb16, 1, none⟩ = some (.int .i64 t5) ∧ w'.cell? ⟨gb16, 2, none⟩ = some (.slice Ao28 t6.length co28) ∧ w'.cell? ⟨gb16, 3, none⟩ = some (.slice Ao29 t9.length co29) ∧ w'.cell? ⟨gb16, 4, none⟩ = some (.int .u32 t12) ∧ w'.cell? ⟨gb16, 5, none⟩ = some (.int .u32 t13) ∧ w'.cell? ⟨gb16, 6, none⟩ = some (.int .i64 t14) ∧ w'.cell? ⟨gb16, 7, none⟩ = some (.int .u32 t15)) ∧ (Kd.R (Kd.int .u32) 33 w' w.heap.size (fun k_ => some k_ ≠ (s_.1 : Value).ownBlock ∧ some k_ ≠ (s_.2.1 : Value).ownBlock ∧ some k_ ≠ (s_.2.2.1 : Value).ownBlock ∧ some k_ ≠ (s_.2.2.2.1 : Value).ownBlock ∧ some k_ ≠ (.slice Ao28 t6.length co28 : Value).ownBlock) (.slice Ao29 t9.length co29) t9) ∧ (Kd.R (Kd.int .u32) 33 w' w.heap.size (fun k_ => some k_ ≠ (.slice Ao29 t9.length co29 : Value).ownBlock ∧ some k_ ≠ (s_.2.1 : Value).ownBlock ∧ some k_ ≠ (s_.2.2.1 : Value).ownBlock ∧ some k_ ≠ (s_.2.2.2.1 : Value).ownBlock ∧ some k_ ≠ (.slice Ao28 t6.length co28 : Value).ownBlock) s_.1 t19) ∧ (Kd.R (Kd.int .u32) 33 w' w.heap.size (fun k_ => some k_ ≠ (.slice Ao29 t9.length co29 : Value).ownBlock ∧ some k_ ≠ (s_.1 : Value).ownBlock ∧ some k_ ≠ (s_.2.2.1 : Value).ownBlock ∧ some k_ ≠ (s_.2.2.2.1 : Value).ownBlock ∧ some k_ ≠ (.slice Ao28 t6.length co28 : Value).ownBlock) s_.2.1 t22) ∧ (Kd.R (Kd.int .u32) 33 w' w.heap.size (fun k_ => some k_ ≠ (.slice Ao29 t9.length co29 : Value).ownBlock ∧ some k_ ≠ (s_.1 : Value).ownBlock ∧ some k_ ≠ (s_.2.1 : Value).ownBlock ∧ some k_ ≠ (s_.2.2.2.1 : Value).ownBlock ∧ some k_ ≠ (.slice Ao28 t6.length co28 : Value).ownBlock) s_.2.2.1 t31) ∧ (Kd.R (Kd.int .u32) 33 w' w.heap.size (fun k_ => some k_ ≠ (.slice Ao29 t9.length co29 : Value).ownBlock ∧ some k_ ≠ (s_.1 : Value).ownBlock ∧ some k_ ≠ (s_.2.1 : Value).ownBlock ∧ some k_ ≠ (s_.2.2.1 : Value).ownBlock ∧ some k_ ≠ (.slice Ao28 t6.length co28 : Value).ownBlock) s_.2.2.2.1 t34) ∧ (Kd.R (Kd.int .u32) 33 w' w.heap.size (fun k_ => some k_ ≠ (.slice Ao29 t9.length co29 : Value).ownBlock ∧ some k_ ≠ (s_.1 : Value).ownBlock ∧ some k_ ≠ (s_.2.1 : Value).ownBlock ∧ some k_ ≠ (s_.2.2.1 : Value).ownBlock ∧ some k_ ≠ (s_.2.2.2.1 : Value).ownBlock) (.slice Ao28 t6.length co28) t6) ∧ (w'.heap[gb1]? = some (.cells #[.int .u32 a0_0, .int .i64 a0_1, .slice A0_2 l0_2.length c0_2, .slice A0_3 l0_3.length c0_3, .int .u32 a0_4, .int .u32 a0_5, .int .i64 a0_6, .int .u32 a0_7] 38 (0, 0))) ∧ (w'.heap[gb16]? = some (.cells #[.int .u32 t4, .int .i64 t5, .slice Ao28 t6.length co28, .slice Ao29 t9.length co29, .int .u32 t12, .int .u32 t13, .int .i64 t14, .int .u32 t15] 38 (0, 0))) ∧ (w'.heap[s_.2.2.2.2]? = some (.cells #[.int .u32 0, .int .i64 0, .slice none 0 0, .slice none 0 0, .int .u32 0, .int .u32 0, .int .i64 0, .int .u32 0] 38 (0, 0))) ∧ (w.heap.size ≤ s_.2.2.2.2) ∧ (w.heap.size ≤ s_.2.2.2.2) ∧ (gb1 ≠ s_.2.2.2.2) ∧ (s_.2.2.2.2 ≠ gb1) ∧ (gb16 ≠ s_.2.2.2.2) ∧ (s_.2.2.2.2 ≠ gb16) ∧ (Below w.heap.size w w')) ?_ ?_
     rotate_left
     ·
      intro hJ1_3_5
      refine join_ (σ := Value × Value × Nat × Nat) 3 #[true, true, true, false, true, true, false, false] (fun s_ => [(16, .agg #[.int .u32 t17, .int .i64 t18, s_.1, s_.2.1, .int .u32 t25, .int .u32 t26, .int .i64 t27, .int .u32 t28]), (4, .pointer (some ⟨s_.2.2.1, 0, none⟩)), (5, .pointer (some ⟨s_.2.2.2, 0, none⟩))]) (fun s_ w' => (w'.cell? ⟨gb16, 0, none⟩ = some (.int .u32 t4) ∧ w'.cell? ⟨gb16, 1, none⟩ = some (.int .i64 t5) ∧ w'.cell? ⟨gb16, 2, none⟩ = some (.slice Ao28 t6.length co28) ∧ w'.cell? ⟨gb16, 3, none⟩ = some (.slice Ao29 t9.length co29) ∧ w'.cell? ⟨gb16, 4, none⟩ = some (.int .u32 t12) ∧ w'.cell? ⟨gb16, 5, none⟩ = some (.int .u32 t13) ∧ w'.cell? ⟨gb16, 6, none⟩ = some (.int .i64 t14) ∧ w'.cell? ⟨gb16, 7, none⟩ = some (.int .u32 t15)) ∧ (Kd.R (Kd.int .u32) 33 w' w.heap.size (fun k_ => some k_ ≠ (s_.1 : Value).ownBlock ∧ some k_ ≠ (s_.2.1 : Value).ownBlock ∧ some k_ ≠ (.slice Ao28 t6.length co28 : Value).ownBlock) (.slice Ao29 t9.length co29) t9) ∧ (Kd.R (Kd.int .u32) 33 w' w.heap.size (fun k_ => some k_ ≠ (.slice Ao29 t9.length co29 : Value).ownBlock ∧ some k_ ≠ (s_.2.1 : Value).ownBlock ∧ some k_ ≠ (.slice Ao28 t6.length co28 : Value).ownBlock) s_.1 t19) ∧ (Kd.R (Kd.int .u32) 33 w' w.heap.size (fun k_ => some k_ ≠ (.slice Ao29 t9.length co29 : Value).ownBlock ∧ some k_ ≠ (s_.1 : Value).ownBlock ∧ some k_ ≠ (.slice Ao28 t6.length co28 : Value).ownBlock) s_.2.1 t22) ∧ (Kd.R (Kd.int .u32) 33 w' w.heap.size (fun k_ => some k_ ≠ (.slice Ao29 t9.length co29 : Value).ownBlock ∧ some k_ ≠ (s_.1 : Value).ownBlock ∧ some k_ ≠ (s_.2.1 : Value).ownBlock) (.slice Ao28 t6.length co28) t6) ∧ (w'.heap[gb1]? = some (.cells #[.int .u32 a0_0, .int .i64 a0_1, .slice A0_2 l0_2.length c0_2, .slice A0_3 l0_3.length c0_3, .int .u32 a0_4, .int .u32 a0_5, .int .i64 a0_6, .int .u32 a0_7] 38 (0, 0))) ∧ (w'.heap[gb16]? = some (.cells #[.int .u32 t4, .int .i64 t5, .slice Ao28 t6.length co28, .slice Ao29 t9.length co29, .int .u32 t12, .int .u32 t13, .int .i64 t14, .int .u32 t15] 38 (0, 0))) ∧ (w'.heap[s_.2.2.1]? = some (.cells #[.int .u32 0, .int .i64 0, .slice none 0 0, .slice none 0 0, .int .u32 0, .int .u32 0, .int .i64 0, .int .u32 0] 38 (0, 0))) ∧ (w'.heap[s_.2.2.2]? = some (.cells #[.int .u32 0, .int .i64 0, .slice none 0 0, .slice none 0 0, .int .u32 0, .int .u32 0, .int .i64 0, .int .u32 0] 38 (0, 0))) ∧ (w.heap.size ≤ s_.2.2.1) ∧ (w.heap.size ≤ s_.2.2.1) ∧ (gb1 ≠ s_.2.2.1) ∧ (s_.2.2.1 ≠ gb1) ∧ (gb16 ≠ s_.2.2.1) ∧ (s_.2.2.1 ≠ gb16) ∧ (s_.2.2.2 ≠ s_.2.2.1) ∧ (s_.2.2.1 ≠ s_.2.2.2) ∧ (w.heap.size ≤ s_.2.2.2) ∧ (w.heap.size ≤ s_.2.2.2) ∧ (gb1 ≠ s_.2.2.2) ∧ (s_.2.2.2 ≠ gb1) ∧ (gb16 ≠ s_.2.2.2) ∧ (s_.2.2.2 ≠ gb16) ∧ (Below w.heap.size w w')) ?_ ?_
      rotate_left
      ·
       intro hJ1_4_5
       refine join_ (σ := Value × Value × Value × Value) 4 #[true, true, true, true, false, false, false, false] (fun s_ => [(16, .agg #[.int .u32 t17, .int .i64 t18, s_.1, s_.2.1, .int .u32 t25, .int .u32 t26, .int .i64 t27, .int .u32 t28]), (18, .agg #[.int .u32 t29, .int .i64 t30, s_.2.2.1, s_.2.2.2, .int .u32 t37, .int .u32 t38, .int .i64 t39, .int .u32 t40])]) (fun s_ w' => (w'.cell? ⟨gb16, 0, none⟩ = some (.int .u32 t4) ∧ w'.cell? ⟨gb16, 1, none⟩ = some (.int .i64 t5) ∧ w'.cell? ⟨gb16, 2, none⟩ = some (.slice Ao28 t6.length co28) ∧ w'.cell? ⟨gb16, 3, none⟩ = some (.slice Ao29 t9.length co29) ∧ w'.cell? ⟨gb16, 4, none⟩ = some (.int .u32 t12) ∧ w'.cell? ⟨gb16, 5, none⟩ = some (.int .u32 t13) ∧ w'.cell? ⟨gb16, 6, none⟩ = some (.int .i64 t14) ∧ w'.cell? ⟨gb16, 7, none⟩ = some (.int .u32 t15)) ∧ (Kd.R (Kd.int .u32) 33 w' w.heap.size (fun k_ => some k_ ≠ (s_.1 : Value).ownBlock ∧ some k_ ≠ (s_.2.1 : Value).ownBlock ∧ some k_ ≠ (s_.2.2.1 : Value).ownBlock ∧ some k_ ≠ (s_.2.2.2 : Value).ownBlock ∧ some k_ ≠ (.slice Ao28 t6.length co28 : Value).ownBlock) (.slice Ao29 t9.length co29) t9) ∧ (Kd.R (Kd.int .u32) 33 w' w.heap.size (fun k_ => some k_ ≠ (.slice Ao29 t9.length co29 : Value).ownBlock ∧ some k_ ≠ (s_.2.1 : Value).ownBlock ∧ some k_ ≠ (s_.2.2.1 : Value).ownBlock ∧ some k_ ≠ (s_.2.2.2 : Value).ownBlock ∧ some k_ ≠ (.slice Ao28 t6.length co28 : Value).ownBlock) s_.1 t19) ∧ (Kd.R (Kd.int .u32) 33 w' w.heap.size (fun k_ => some k_ ≠ (.slice Ao29 t9.length co29 : Value).ownBlock ∧ some k_ ≠ (s_.1 : Value).ownBlock ∧ some k_ ≠ (s_.2.2.1 : Value).ownBlock ∧ some k_ ≠ (s_.2.2.2 : Value).ownBlock ∧ some k_ ≠ (.slice Ao28 t6.length co28 : Value).ownBlock) s_.2.1 t22) ∧ (Kd.R (Kd.int .u32) 33 w' w.heap.size (fun k_ => some k_ ≠ (.slice Ao29 t9.length co29 : Value).ownBlock ∧ some k_ ≠ (s_.1 : Value).ownBlock ∧ some k_ ≠ (s_.2.1 : Value).ownBlock ∧ some k_ ≠ (s_.2.2.2 : Value).ownBlock ∧ some k_ ≠ (.slice Ao28 t6.length co28 : Value).ownBlock) s_.2.2.1 t31) ∧ (Kd.R (Kd.int .u32) 33 w' w.heap.size (fun k_ => some k_ ≠ (.slice Ao29 t9.length co29 : Value).ownBlock ∧ some k_ ≠ (s_.1 : Value).ownBlock ∧ some k_ ≠ (s_.2.1 : Value).ownBlock ∧ some k_ ≠ (s_.2.2.1 : Value).ownBlock ∧ some k_ ≠ (.slice Ao28 t6.length co28 : Value).ownBlock) s_.2.2.2 t34) ∧ (Kd.R (Kd.int .u32) 33 w' w.heap.size (fun k_ => some k_ ≠ (.slice Ao29 t9.length co29 : Value).ownBlock ∧ some k_ ≠ (s_.1 : Value).ownBlock ∧ some k_ ≠ (s_.2.1 : Value).ownBlock ∧ some k_ ≠ (s_.2.2.1 : Value).ownBlock ∧ some k_ ≠ (s_.2.2.2 : Value).ownBlock) (.slice Ao28 t6.length co28) t6) ∧ (w'.heap[gb1]? = some (.cells #[.int .u32 a0_0, .int .i64 a0_1, .slice A0_2 l0_2.length c0_2, .slice A0_3 l0_3.length c0_3, .int .u32 a0_4, .int .u32 a0_5, .int .i64 a0_6, .int .u32 a0_7] 38 (0, 0))) ∧ (w'.heap[gb16]? = some (.cells #[.int .u32 t4, .int .i64 t5, .slice Ao28 t6.length co28, .slice Ao29 t9.length co29, .int .u32 t12, .int .u32 t13, .int .i64 t14, .int .u32 t15] 38 (0, 0))) ∧ (Below w.heap.size w w')) ?_ ?_
       rotate_left
       ·
        intro hJ1_3
        refine join_ (σ := Value × Value × Nat) 4 #[true, true, true, false, true, false, false, false] (fun s_ => [(16, .agg #[.int .u32 t17, .int .i64 t18, s_.1, s_.2.1, .int .u32 t25, .int .u32 t26, .int .i64 t27, .int .u32 t28]), (4, .pointer (some ⟨s_.2.2, 0, none⟩))]) (fun s_ w' => (w'.cell? ⟨gb16, 0, none⟩ = some (.int .u32 t4) ∧ w'.cell? ⟨gb16, 1, none⟩ = some (.int .i64 t5) ∧ w'.cell? ⟨gb16, 2, none⟩ = some (.slice Ao28 t6.length co28) ∧ w'.cell? ⟨gb16, 3, none⟩ = some (.slice Ao29 t9.length co29) ∧ w'.cell? ⟨gb16, 4, none⟩ = some (.int .u32 t12) ∧ w'.cell? ⟨gb16, 5, none⟩ = some (.int .u32 t13) ∧ w'.cell? ⟨gb16, 6, none⟩ = some (.int .i64 t14) ∧ w'.cell? ⟨gb16, 7, none⟩ = some (.int .u32 t15)) ∧ (Kd.R (Kd.int .u32) 33 w' w.heap.size (fun k_ => some k_ ≠ (s_.1 : Value).ownBlock ∧ some k_ ≠ (s_.2.1 : Value).ownBlock ∧ some k_ ≠ (.slice Ao28 t6.length co28 : Value).ownBlock) (.slice Ao29 t9.length co29) t9) ∧ (Kd.R (Kd.int .u32) 33 w' w.heap.size (fun k_ => some k_ ≠ (.slice Ao29 t9.length co29 : Value).ownBlock ∧ some k_ ≠ (s_.2.1 : Value).ownBlock ∧ some k_ ≠ (.slice Ao28 t6.length co28 : Value).ownBlock) s_.1 t19) ∧ (Kd.R (Kd.int .u32) 33 w' w.heap.size (fun k_ => some k_ ≠ (.slice Ao29 t9.length co29 : Value).ownBlock ∧ some k_ ≠ (s_.1 : Value).ownBlock ∧ some k_ ≠ (.slice Ao28 t6.length co28 : Value).ownBlock) s_.2.1 t22) ∧ (Kd.R (Kd.int .u32) 33 w' w.heap.size (fun k_ => some k_ ≠ (.slice Ao29 t9.length co29 : Value).ownBlock ∧ some k_ ≠ (s_.1 : Value).ownBlock ∧ some k_ ≠ (s_.2.1 : Value).ownBlock) (.slice Ao28 t6.length co28) t6) ∧ (w'.heap[gb1]? = some (.cells #[.int .u32 a0_0, .int .i64 a0_1, .slice A0_2 l0_2.length c0_2, .slice A0_3 l0_3.length c0_3, .int .u32 a0_4, .int .u32 a0_5, .int .i64 a0_6, .int .u32 a0_7] 38 (0, 0))) ∧ (w'.heap[gb16]? = some (.cells #[.int .u32 t4, .int .i64 t5, .slice Ao28 t6.length co28, .slice Ao29 t9.length co29, .int .u32 t12, .int .u32 t13, .int .i64 t14, .int .u32 t15] 38 (0, 0))) ∧ (w'.heap[s_.2.2]? = some (.cells #[.int .u32 0, .int .i64 0, .slice none 0 0, .slice none 0 0, .int .u32 0, .int .u32 0, .int .i64 0, .int .u32 0] 38 (0, 0))) ∧ (w.heap.size ≤ s_.2.2) ∧ (w.heap.size ≤ s_.2.2) ∧ (gb1 ≠ s_.2.2) ∧ (s_.2.2 ≠ gb1) ∧ (gb16 ≠ s_.2.2) ∧ (s_.2.2 ≠ gb16) ∧ (Below w.heap.size w w')) ?_ ?_
        rotate_left
        ·
         intro hJ1_4
         refine join_ (σ := Value × Value × Nat) 4 #[true, true, true, false, false, true, false, false] (fun s_ => [(16, .agg #[.int .u32 t17, .int .i64 t18, s_.1, s_.2.1, .int .u32 t25, .int .u32 t26, .int .i64 t27, .int .u32 t28]), (5, .pointer (some ⟨s_.2.2, 0, none⟩))]) (fun s_ w' => (w'.cell? ⟨gb16, 0, none⟩ = some (.int .u32 t4) ∧ w'.cell? ⟨gb16, 1, none⟩ = some (.int .i64 t5) ∧ w'.cell? ⟨gb16, 2, none⟩ = some (.slice Ao28 t6.length co28) ∧ w'.cell? ⟨gb16, 3, none⟩ = some (.slice Ao29 t9.length co29) ∧ w'.cell? ⟨gb16, 4, none⟩ = some (.int .u32 t12) ∧ w'.cell? ⟨gb16, 5, none⟩ = some (.int .u32 t13) ∧ w'.cell? ⟨gb16, 6, none⟩ = some (.int .i64 t14) ∧ w'.cell? ⟨gb16, 7, none⟩ = some (.int .u32 t15)) ∧ (Kd.R (Kd.int .u32) 33 w' w.heap.size (fun k_ => some k_ ≠ (s_.1 : Value).ownBlock ∧ some k_ ≠ (s_.2.1 : Value).ownBlock ∧ some k_ ≠ (.slice Ao28 t6.length co28 : Value).ownBlock) (.slice Ao29 t9.length co29) t9) ∧ (Kd.R (Kd.int .u32) 33 w' w.heap.size (fun k_ => some k_ ≠ (.slice Ao29 t9.length co29 : Value).ownBlock ∧ some k_ ≠ (s_.2.1 : Value).ownBlock ∧ some k_ ≠ (.slice Ao28 t6.length co28 : Value).ownBlock) s_.1 t19) ∧ (Kd.R (Kd.int .u32) 33 w' w.heap.size (fun k_ => some k_ ≠ (.slice Ao29 t9.length co29 : Value).ownBlock ∧ some k_ ≠ (s_.1 : Value).ownBlock ∧ some k_ ≠ (.slice Ao28 t6.length co28 : Value).ownBlock) s_.2.1 t22) ∧ (Kd.R (Kd.int .u32) 33 w' w.heap.size (fun k_ => some k_ ≠ (.slice Ao29 t9.length co29 : Value).ownBlock ∧ some k_ ≠ (s_.1 : Value).ownBlock ∧ some k_ ≠ (s_.2.1 : Value).ownBlock) (.slice Ao28 t6.length co28) t6) ∧ (w'.heap[gb1]? = some (.cells #[.int .u32 a0_0, .int .i64 a0_1, .slice A0_2 l0_2.length c0_2, .slice A0_3 l0_3.length c0_3, .int .u32 a0_4, .int .u32 a0_5, .int .i64 a0_6, .int .u32 a0_7] 38 (0, 0))) ∧ (w'.heap[gb16]? = some (.cells #[.int .u32 t4, .int .i64 t5, .slice Ao28 t6.length co28, .slice Ao29 t9.length co29, .int .u32 t12, .int .u32 t13, .int .i64 t14, .int .u32 t15] 38 (0, 0))) ∧ (w'.heap[s_.2.2]? = some (.cells #[.int .u32 0, .int .i64 0, .slice none 0 0, .slice none 0 0, .int .u32 0, .int .u32 0, .int .i64 0, .int .u32 0] 38 (0, 0))) ∧ (w.heap.size ≤ s_.2.2) ∧ (w.heap.size ≤ s_.2.2) ∧ (gb1 ≠ s_.2.2) ∧ (s_.2.2 ≠ gb1) ∧ (gb16 ≠ s_.2.2) ∧ (s_.2.2 ≠ gb16) ∧ (Below w.heap.size w w')) ?_ ?_
         rotate_left
         ·
          intro hJ1_5
          refine join_ (σ := Nat × Nat) 4 #[true, false, true, false, true, true, false, false] (fun s_ => [(4, .pointer (some ⟨s_.1, 0, none⟩)), (5, .pointer (some ⟨s_.2, 0, none⟩))]) (fun s_ w' => (w'.cell? ⟨gb16, 0, none⟩ = some (.int .u32 t4) ∧ w'.cell? ⟨gb16, 1, none⟩ = some (.int .i64 t5) ∧ w'.cell? ⟨gb16, 2, none⟩ = some (.slice Ao28 t6.length co28) ∧ w'.cell? ⟨gb16, 3, none⟩ = some (.slice Ao29 t9.length co29) ∧ w'.cell? ⟨gb16, 4, none⟩ = some (.int .u32 t12) ∧ w'.cell? ⟨gb16, 5, none⟩ = some (.int .u32 t13) ∧ w'.cell? ⟨gb16, 6, none⟩ = some (.int .i64 t14) ∧ w'.cell? ⟨gb16, 7, none⟩ = some (.int .u32 t15)) ∧ (Kd.R (Kd.int .u32) 33 w' w.heap.size (fun k_ => some k_ ≠ (.slice Ao28 t6.length co28 : Value).ownBlock) (.slice Ao29 t9.length co29) t9) ∧ (Kd.R (Kd.int .u32) 33 w' w.heap.size (fun k_ => some k_ ≠ (.slice Ao29 t9.length co29 : Value).ownBlock) (.slice Ao28 t6.length co28) t6) ∧ (w'.heap[gb1]? = some (.cells #[.int .u32 a0_0, .int .i64 a0_1, .slice A0_2 l0_2.length c0_2, .slice A0_3 l0_3.length c0_3, .int .u32 a0_4, .int .u32 a0_5, .int .i64 a0_6, .int .u32 a0_7] 38 (0, 0))) ∧ (w'.heap[gb16]? = some (.cells #[.int .u32 t4, .int .i64 t5, .slice Ao28 t6.length co28, .slice Ao29 t9.length co29, .int .u32 t12, .int .u32 t13, .int .i64 t14, .int .u32 t15] 38 (0, 0))) ∧ (w'.heap[s_.1]? = some (.cells #[.int .u32 0, .int .i64 0, .slice none 0 0, .slice none 0 0, .int .u32 0, .int .u32 0, .int .i64 0, .int .u32 0] 38 (0, 0))) ∧ (w'.heap[s_.2]? = some (.cells #[.int .u32 0, .int .i64 0, .slice none 0 0, .slice none 0 0, .int .u32 0, .int .u32 0, .int .i64 0, .int .u32 0] 38 (0, 0))) ∧ (w.heap.size ≤ s_.1) ∧ (w.heap.size ≤ s_.1) ∧ (gb1 ≠ s_.1) ∧ (s_.1 ≠ gb1) ∧ (gb16 ≠ s_.1) ∧ (s_.1 ≠ gb16) ∧ (s_.2 ≠ s_.1) ∧ (s_.1 ≠ s_.2) ∧ (w.heap.size ≤ s_.2) ∧ (w.heap.size ≤ s_.2) ∧ (gb1 ≠ s_.2) ∧ (s_.2 ≠ gb1) ∧ (gb16 ≠ s_.2) ∧ (s_.2 ≠ gb16) ∧ (Below w.heap.size w w')) ?_ ?_
          rotate_left
          ·
           intro hJ4_5
           refine join_ (σ := Value × Value) 5 #[true, true, true, false, false, false, false, false] (fun s_ => [(16, .agg #[.int .u32 t17, .int .i64 t18, s_.1, s_.2, .int .u32 t25, .int .u32 t26, .int .i64 t27, .int .u32 t28])]) (fun s_ w' => (w'.cell? ⟨gb16, 0, none⟩ = some (.int .u32 t4) ∧ w'.cell? ⟨gb16, 1, none⟩ = some (.int .i64 t5) ∧ w'.cell? ⟨gb16, 2, none⟩ = some (.slice Ao28 t6.length co28) ∧ w'.cell? ⟨gb16, 3, none⟩ = some (.slice Ao29 t9.length co29) ∧ w'.cell? ⟨gb16, 4, none⟩ = some (.int .u32 t12) ∧ w'.cell? ⟨gb16, 5, none⟩ = some (.int .u32 t13) ∧ w'.cell? ⟨gb16, 6, none⟩ = some (.int .i64 t14) ∧ w'.cell? ⟨gb16, 7, none⟩ = some (.int .u32 t15)) ∧ (Kd.R (Kd.int .u32) 33 w' w.heap.size (fun k_ => some k_ ≠ (s_.1 : Value).ownBlock ∧ some k_ ≠ (s_.2 : Value).ownBlock ∧ some k_ ≠ (.slice Ao28 t6.length co28 : Value).ownBlock) (.slice Ao29 t9.length co29) t9) ∧ (Kd.R (Kd.int .u32) 33 w' w.heap.size (fun k_ => some k_ ≠ (.slice Ao29 t9.length co29 : Value).ownBlock ∧ some k_ ≠ (s_.2 : Value).ownBlock ∧ some k_ ≠ (.slice Ao28 t6.length co28 : Value).ownBlock) s_.1 t19) ∧ (Kd.R (Kd.int .u32) 33 w' w.heap.size (fun k_ => some k_ ≠ (.slice Ao29 t9.length co29 : Value).ownBlock ∧ some k_ ≠ (s_.1 : Value).ownBlock ∧ some k_ ≠ (.slice Ao28 t6.length co28 : Value).ownBlock) s_.2 t22) ∧ (Kd.R (Kd.int .u32) 33 w' w.heap.size (fun k_ => some k_ ≠ (.slice Ao29 t9.length co29 : Value).ownBlock ∧ some k_ ≠ (s_.1 : Value).ownBlock ∧ some k_ ≠ (s_.2 : Value).ownBlock) (.slice Ao28 t6.length co28) t6) ∧ (w'.heap[gb1]? = some (.cells #[.int .u32 a0_0, .int .i64 a0_1, .slice A0_2 l0_2.length c0_2, .slice A0_3 l0_3.length c0_3, .int .u32 a0_4, .int .u32 a0_5, .int .i64 a0_6, .int .u32 a0_7] 38 (0, 0))) ∧ (w'.heap[gb16]? = some (.cells #[.int .u32 t4, .int .i64 t5, .slice Ao28 t6.length co28, .slice Ao29 t9.length co29, .int .u32 t12, .int .u32 t13, .int .i64 t14, .int .u32 t15] 38 (0, 0))) ∧ (Below w.heap.size w w')) ?_ ?_
           rotate_left
           ·
            intro hJ1
            refine join_ (σ := Nat) 5 #[true, false, true, false, true, false, false, false] (fun s_ => [(4, .pointer (some ⟨s_, 0, none⟩))]) (fun s_ w' => (w'.cell? ⟨gb16, 0, none⟩ = some (.int .u32 t4) ∧ w'.cell? ⟨gb16, 1, none⟩ = some (.int .i64 t5) ∧ w'.cell? ⟨gb16, 2, none⟩ = some (.slice Ao28 t6.length co28) ∧ w'.cell? ⟨gb16, 3, none⟩ = some (.slice Ao29 t9.length co29) ∧ w'.cell? ⟨gb16, 4, none⟩ = some (.int .u32 t12) ∧ w'.cell? ⟨gb16, 5, none⟩ = some (.int .u32 t13) ∧ w'.cell? ⟨gb16, 6, none⟩ = some (.int .i64 t14) ∧ w'.cell? ⟨gb16, 7, none⟩ = some (.int .u32 t15)) ∧ (Kd.R (Kd.int .u32) 33 w' w.heap.size (fun k_ => some k_ ≠ (.slice Ao28 t6.length co28 : Value).ownBlock) (.slice Ao29 t9.length co29) t9) ∧ (Kd.R (Kd.int .u32) 33 w' w.heap.size (fun k_ => some k_ ≠ (.slice Ao29 t9.length co29 : Value).ownBlock) (.slice Ao28 t6.length co28) t6) ∧ (w'.heap[gb1]? = some (.cells #[.int .u32 a0_0, .int .i64 a0_1, .slice A0_2 l0_2.length c0_2, .slice A0_3 l0_3.length c0_3, .int .u32 a0_4, .int .u32 a0_5, .int .i64 a0_6, .int .u32 a0_7] 38 (0, 0))) ∧ (w'.heap[gb16]? = some (.cells #[.int .u32 t4, .int .i64 t5, .slice Ao28 t6.length co28, .slice Ao29 t9.length co29, .int .u32 t12, .int .u32 t13, .int .i64 t14, .int .u32 t15] 38 (0, 0))) ∧ (w'.heap[s_]? = some (.cells #[.int .u32 0, .int .i64 0, .slice none 0 0, .slice none 0 0, .int .u32 0, .int .u32 0, .int .i64 0, .int .u32 0] 38 (0, 0))) ∧ (w.heap.size ≤ s_) ∧ (w.heap.size ≤ s_) ∧ (gb1 ≠ s_) ∧ (s_ ≠ gb1) ∧ (gb16 ≠ s_) ∧ (s_ ≠ gb16) ∧ (Below w.heap.size w w')) ?_ ?_
            rotate_left
            ·
             intro hJ4
             refine join_ (σ := Nat) 5 #[true, false, true, false, false, true, false, false] (fun s_ => [(5, .pointer (some ⟨s_, 0, none⟩))]) (fun s_ w' => (w'.cell? ⟨gb16, 0, none⟩ = some (.int .u32 t4) ∧ w'.cell? ⟨gb16, 1, none⟩ = some (.int .i64 t5) ∧ w'.cell? ⟨gb16, 2, none⟩ = some (.slice Ao28 t6.length co28) ∧ w'.cell? ⟨gb16, 3, none⟩ = some (.slice Ao29 t9.length co29) ∧ w'.cell? ⟨gb16, 4, none⟩ = some (.int .u32 t12) ∧ w'.cell? ⟨gb16, 5, none⟩ = some (.int .u32 t13) ∧ w'.cell? ⟨gb16, 6, none⟩ = some (.int .i64 t14) ∧ w'.cell? ⟨gb16, 7, none⟩ = some (.int .u32 t15)) ∧ (Kd.R (Kd.int .u32) 33 w' w.heap.size (fun k_ => some k_ ≠ (.slice Ao28 t6.length co28 : Value).ownBlock) (.slice Ao29 t9.length co29) t9) ∧ (Kd.R (Kd.int .u32) 33 w' w.heap.size (fun k_ => some k_ ≠ (.slice Ao29 t9.length co29 : Value).ownBlock) (.slice Ao28 t6.length co28) t6) ∧ (w'.heap[gb1]? = some (.cells #[.int .u32 a0_0, .int .i64 a0_1, .slice A0_2 l0_2.length c0_2, .slice A0_3 l0_3.length c0_3, .int .u32 a0_4, .int .u32 a0_5, .int .i64 a0_6, .int .u32 a0_7] 38 (0, 0))) ∧ (w'.heap[gb16]? = some (.cells #[.int .u32 t4, .int .i64 t5, .slice Ao28 t6.length co28, .slice Ao29 t9.length co29, .int .u32 t12, .int .u32 t13, .int .i64 t14, .int .u32 t15] 38 (0, 0))) ∧ (w'.heap[s_]? = some (.cells #[.int .u32 0, .int .i64 0, .slice none 0 0, .slice none 0 0, .int .u32 0, .int .u32 0, .int .i64 0, .int .u32 0] 38 (0, 0))) ∧ (w.heap.size ≤ s_) ∧ (w.heap.size ≤ s_) ∧ (gb1 ≠ s_) ∧ (s_ ≠ gb1) ∧ (gb16 ≠ s_) ∧ (s_ ≠ gb16) ∧ (Below w.heap.size w w')) ?_ ?_
             rotate_left
             ·
              intro hJ5
              refine three_ (i := 1) (j := 4) (k := 5) (Ni := some 16) (Nj := some 4) (Nk := some 5) #[true, true, true, false, false, false, false, false] #[true, false, true, false, true, false, false, false] #[true, false, true, false, false, true, false, false] rfl rfl rfl rfl rfl rfl (three_of HT_.out (by kernel_rfl)) (by decide) (by decide) (by decide) (fun K hK => ?_) (fun K hK => ?_) (fun K hK => ?_)
              ·
               skip
               refine goes_ Try.func36 (by kernel_rfl) rfl #[.agg #[.int .u32 t4, .int .i64 t5, .slice Ao28 t6.length co28, .slice Ao29 t9.length co29, .int .u32 t12, .int .u32 t13, .int .i64 t14, .int .u32 t15]] (by rfl) rfl rfl (by (try simp only [List.map_toArray, List.map_cons, List.map_nil]); first | done | rfl | (simp only [List.length_drop, List.length_take]; rfl)) ?_
               with_reducible refine (q6z.calls k t4 t5 _ _ t6 _ _ t9 t12 t13 t14 t15 t17 t18 t19 t22 t25 t26 t27 t28 _ ?side1 ?side2 ?side3 ?side4 A11.out).mono ?_
               (case side1 => repeat (first | exact (Kd.R_reads' HO8.out).2.2 | (with_reducible refine Kd.C_alloc ?_ _) | (with_reducible refine Kd.C_drewN ?_ _) | (with_reducible refine Kd.C_drew ?_)))
               (case side2 => exact (Kd.R_reads' HO8.out).2.1)
               (case side3 => repeat (first | exact (Kd.R_reads' HO11.out).2.2 | (with_reducible refine Kd.C_alloc ?_ _) | (with_reducible refine Kd.C_drewN ?_ _) | (with_reducible refine Kd.C_drew ?_)))
               (case side4 => exact (Kd.R_reads' HO11.out).2.1)
               rintro e w32 ⟨v20, v23, rfl, ho0, ho1, hb⟩
               refine ⟨_, rfl, ?_⟩
               have HO21 := Aside0.mk (Kd.R_lower (Kd.R_new' (Kd.R_new' ho0 (Kd.R_lt (rW HO8))) (Kd.R_lt (rW HO11))) (below_size (hbW HB)))
               have HO24 := Aside0.mk (Kd.R_lower (Kd.R_new' (Kd.R_new' ho1 (Kd.R_lt (rW HO8))) (Kd.R_lt (rW HO11))) (below_size (hbW HB)))
               replace HO8 := Aside0.mk (Kd.R_mono (Kd.R_told (Kd.R_told (Kd.R_old (rW HO8) hb) (Kd.R_base ho0)) (Kd.R_base ho1)) (fun _ h_ => h_.1))
               replace HO11 := Aside0.mk (Kd.R_mono (Kd.R_told (Kd.R_told (Kd.R_old (rW HO11) hb) (Kd.R_base ho0)) (Kd.R_base ho1)) (fun _ h_ => h_.1))
               replace BK1 := bkB BK1 hb
               replace BK16 := bkB BK16 hb
               replace HB := hbS HB hb
               (try clear hb)
               (try clear ho0)
               (try clear ho1)
               refine hK.out _ _ (bl8 BK16) (fun hHeld => ?_)
               clear hK K
               refine norm_ (a' := ?_) ?_ ?_
               rotate_left
               ·
                show Act.put _ (some 16) _ = _
                simp only [Act.put, List.setIfInBounds_toArray, List.set_cons_zero, List.set_cons_succ, i64_w, i32_w, IntKind.wrap_u32]
                rfl
               exact norm_ (by first | (simp only [putAll, Act.put, List.setIfInBounds_toArray, List.set_cons_zero, List.set_cons_succ]; done) | (simp only [putAll, Act.put, List.setIfInBounds_toArray, List.set_cons_zero, List.set_cons_succ]; rfl)) (hJ1 (v20, v23) _ ⟨hHeld, (by (with_reducible repeat (first | apply Kd.R_alloc | apply Kd.R_drewN | apply Kd.R_drew)); exact Kd.R_mono HO11.out (fun _ hk => ⟨hk.1.2, ⟨hk.2, hk.1.1⟩⟩)), (by (with_reducible repeat (first | apply Kd.R_alloc | apply Kd.R_drewN | apply Kd.R_drew)); exact Kd.R_mono HO21.out (fun _ hk => ⟨hk.2, ⟨hk.1.1, hk.1.2⟩⟩)), (by (with_reducible repeat (first | apply Kd.R_alloc | apply Kd.R_drewN | apply Kd.R_drew)); exact Kd.R_mono HO24.out (fun _ hk => ⟨hk.2, ⟨hk.1.1, hk.1.2⟩⟩)), (by (with_reducible repeat (first | apply Kd.R_alloc | apply Kd.R_drewN | apply Kd.R_drew)); exact Kd.R_mono HO8.out (fun _ hk => ⟨hk.1.1, ⟨hk.1.2, hk.2⟩⟩)), (bkW BK1), (bkW BK16), (hbW HB)⟩)
              ·
               skip
               refine box_step ?hg (N := 4) ?hd (cs := #[.int .u32 0, .int .i64 0, .slice none 0 0, .slice none 0 0, .int .u32 0, .int .u32 0, .int .i64 0, .int .u32 0]) (t := 38) ?hr ?_; (case hd => rfl); (case hg => rfl); (case hr => first | (go_simp; done) | (go_simp; rfl))
               intro gb41 hg w32 hbox hb
               have BK41 := Aside0.mk (hbox)
               have GW41 := gwS hg HB
               have GE41 := gwS hg HB
               have NB1_41 := nbL hg BK1
               have NB41_1 := nbG hg BK1
               have NB16_41 := nbL hg BK16
               have NB41_16 := nbG hg BK16
               replace HO8 := Aside0.mk (Kd.R_below (rW HO8) hb)
               replace HO11 := Aside0.mk (Kd.R_below (rW HO11) hb)
               replace BK1 := bkB BK1 hb
               replace BK16 := bkB BK16 hb
               replace HB := hbS HB hb
               clear hb hbox hg
               refine hK.out _ _ (bl8 BK16) (fun hHeld => ?_)
               clear hK K
               refine norm_ (a' := ?_) ?_ ?_
               rotate_left
               ·
                show Act.put _ (some 4) _ = _
                simp only [Act.put, List.setIfInBounds_toArray, List.set_cons_zero, List.set_cons_succ, i64_w, i32_w, IntKind.wrap_u32]
                rfl
               exact norm_ (by first | (simp only [putAll, Act.put, List.setIfInBounds_toArray, List.set_cons_zero, List.set_cons_succ]; done) | (simp only [putAll, Act.put, List.setIfInBounds_toArray, List.set_cons_zero, List.set_cons_succ]; rfl)) (hJ4 (gb41) _ ⟨hHeld, (rW HO11), (rW HO8), (bkW BK1), (bkW BK16), (bkW BK41), GW41.out, GE41.out, NB1_41.out, NB41_1.out, NB16_41.out, NB41_16.out, (hbW HB)⟩)
              ·
               skip
               refine box_step ?hg (N := 5) ?hd (cs := #[.int .u32 0, .int .i64 0, .slice none 0 0, .slice none 0 0, .int .u32 0, .int .u32 0, .int .i64 0, .int .u32 0]) (t := 38) ?hr ?_; (case hd => rfl); (case hg => rfl); (case hr => first | (go_simp; done) | (go_simp; rfl))
               intro gb42 hg w32 hbox hb
               have BK42 := Aside0.mk (hbox)
               have GW42 := gwS hg HB
               have GE42 := gwS hg HB
               have NB1_42 := nbL hg BK1
               have NB42_1 := nbG hg BK1
               have NB16_42 := nbL hg BK16
               have NB42_16 := nbG hg BK16
               replace HO8 := Aside0.mk (Kd.R_below (rW HO8) hb)
               replace HO11 := Aside0.mk (Kd.R_below (rW HO11) hb)
               replace BK1 := bkB BK1 hb
               replace BK16 := bkB BK16 hb
               replace HB := hbS HB hb
               clear hb hbox hg
               refine hK.out _ _ (bl8 BK16) (fun hHeld => ?_)
               clear hK K
               refine norm_ (a' := ?_) ?_ ?_
               rotate_left
               ·
                show Act.put _ (some 5) _ = _
                simp only [Act.put, List.setIfInBounds_toArray, List.set_cons_zero, List.set_cons_succ, i64_w, i32_w, IntKind.wrap_u32]
                rfl
               exact norm_ (by first | (simp only [putAll, Act.put, List.setIfInBounds_toArray, List.set_cons_zero, List.set_cons_succ]; done) | (simp only [putAll, Act.put, List.setIfInBounds_toArray, List.set_cons_zero, List.set_cons_succ]; rfl)) (hJ5 (gb42) _ ⟨hHeld, (rW HO11), (rW HO8), (bkW BK1), (bkW BK16), (bkW BK42), GW42.out, GE42.out, NB1_42.out, NB42_1.out, NB16_42.out, NB42_16.out, (hbW HB)⟩)
             ·
              skip
              rintro gb42 w33 ⟨hS_, h0_, h1_, h2_, h3_, h4_, h5_, h6_, h7_, h8_, h9_, h10_, h11_⟩
              have n0_ : Aside0 (Kd.R (Kd.int .u32) 33 w33 w.heap.size (fun k_ => some k_ ≠ (.slice Ao28 t6.length co28 : Value).ownBlock) (.slice Ao29 t9.length co29) t9) := ⟨h0_⟩
              have n1_ : Aside0 (Kd.R (Kd.int .u32) 33 w33 w.heap.size (fun k_ => some k_ ≠ (.slice Ao29 t9.length co29 : Value).ownBlock) (.slice Ao28 t6.length co28) t6) := ⟨h1_⟩
              have n2_ : Aside0 (w33.heap[gb1]? = some (.cells #[.int .u32 a0_0, .int .i64 a0_1, .slice A0_2 l0_2.length c0_2, .slice A0_3 l0_3.length c0_3, .int .u32 a0_4, .int .u32 a0_5, .int .i64 a0_6, .int .u32 a0_7] 38 (0, 0))) := ⟨h2_⟩
              have n3_ : Aside0 (w33.heap[gb16]? = some (.cells #[.int .u32 t4, .int .i64 t5, .slice Ao28 t6.length co28, .slice Ao29 t9.length co29, .int .u32 t12, .int .u32 t13, .int .i64 t14, .int .u32 t15] 38 (0, 0))) := ⟨h3_⟩
              have n4_ : Aside0 (w33.heap[gb42]? = some (.cells #[.int .u32 0, .int .i64 0, .slice none 0 0, .slice none 0 0, .int .u32 0, .int .u32 0, .int .i64 0, .int .u32 0] 38 (0, 0))) := ⟨h4_⟩
              have n5_ : Aside0 (w.heap.size ≤ gb42) := ⟨h5_⟩
              have n6_ : Aside0 (w.heap.size ≤ gb42) := ⟨h6_⟩
              have n7_ : Aside0 (gb1 ≠ gb42) := ⟨h7_⟩
              have n8_ : Aside0 (gb42 ≠ gb1) := ⟨h8_⟩
              have n9_ : Aside0 (gb16 ≠ gb42) := ⟨h9_⟩
              have n10_ : Aside0 (gb42 ≠ gb16) := ⟨h10_⟩
              have n11_ : Aside0 (Below w.heap.size w w33) := ⟨h11_⟩
              clear HO8 HO11 BK1 BK16 HB h0_ h1_ h2_ h3_ h4_ h5_ h6_ h7_ h8_ h9_ h10_ h11_
              have HO11 := n0_
              have HO8 := n1_
              have BK1 := n2_
              have BK16 := n3_
              have BK42 := n4_
              have GW42 := n5_
              have GE42 := n6_
              have NB1_42 := n7_
              have NB42_1 := n8_
              have NB16_42 := n9_
              have NB42_16 := n10_
              have HB := n11_
              clear n0_ n1_ n2_ n3_ n4_ n5_ n6_ n7_ n8_ n9_ n10_ n11_
              have hHeld : w33.cell? ⟨gb16, 0, none⟩ = some (.int .u32 t4) ∧ w33.cell? ⟨gb16, 1, none⟩ = some (.int .i64 t5) ∧ w33.cell? ⟨gb16, 2, none⟩ = some (.slice Ao28 t6.length co28) ∧ w33.cell? ⟨gb16, 3, none⟩ = some (.slice Ao29 t9.length co29) ∧ w33.cell? ⟨gb16, 4, none⟩ = some (.int .u32 t12) ∧ w33.cell? ⟨gb16, 5, none⟩ = some (.int .u32 t13) ∧ w33.cell? ⟨gb16, 6, none⟩ = some (.int .i64 t14) ∧ w33.cell? ⟨gb16, 7, none⟩ = some (.int .u32 t15) := hS_
              refine norm_ (a' := ?_) ?_ ?_
              rotate_left
              ·
               simp only [putAll, Act.put, List.setIfInBounds_toArray, List.set_cons_zero, List.set_cons_succ]
               rfl
              refine two_ (i := 1) (j := 4) (Ni := some 16) (Nj := some 4) #[true, true, true, false, false, true, false, false] #[true, false, true, false, true, true, false, false] rfl rfl rfl rfl (two_of HT_.out (by kernel_rfl)) (by decide) (by decide) (fun K hK => ?_) (fun K hK => ?_)
              ·
               skip
               refine goes_ Try.func36 (by kernel_rfl) rfl #[.agg #[.int .u32 t4, .int .i64 t5, .slice Ao28 t6.length co28, .slice Ao29 t9.length co29, .int .u32 t12, .int .u32 t13, .int .i64 t14, .int .u32 t15]] (by rfl) rfl rfl (by (try simp only [List.map_toArray, List.map_cons, List.map_nil]); first | done | rfl | (simp only [List.length_drop, List.length_take]; rfl)) ?_
               with_reducible refine (q6z.calls k t4 t5 _ _ t6 _ _ t9 t12 t13 t14 t15 t17 t18 t19 t22 t25 t26 t27 t28 _ ?side1 ?side2 ?side3 ?side4 A11.out).mono ?_
               (case side1 => repeat (first | exact (Kd.R_reads' HO8.out).2.2 | (with_reducible refine Kd.C_alloc ?_ _) | (with_reducible refine Kd.C_drewN ?_ _) | (with_reducible refine Kd.C_drew ?_)))
               (case side2 => exact (Kd.R_reads' HO8.out).2.1)
               (case side3 => repeat (first | exact (Kd.R_reads' HO11.out).2.2 | (with_reducible refine Kd.C_alloc ?_ _) | (with_reducible refine Kd.C_drewN ?_ _) | (with_reducible refine Kd.C_drew ?_)))
               (case side4 => exact (Kd.R_reads' HO11.out).2.1)
               rintro e w34 ⟨v20, v23, rfl, ho0, ho1, hb⟩
               refine ⟨_, rfl, ?_⟩
               have HO21 := Aside0.mk (Kd.R_lower (Kd.R_new' (Kd.R_new' ho0 (Kd.R_lt (rW HO8))) (Kd.R_lt (rW HO11))) (below_size (hbW HB)))
               have HO24 := Aside0.mk (Kd.R_lower (Kd.R_new' (Kd.R_new' ho1 (Kd.R_lt (rW HO8))) (Kd.R_lt (rW HO11))) (below_size (hbW HB)))
               replace HO8 := Aside0.mk (Kd.R_mono (Kd.R_told (Kd.R_told (Kd.R_old (rW HO8) hb) (Kd.R_base ho0)) (Kd.R_base ho1)) (fun _ h_ => h_.1))
               replace HO11 := Aside0.mk (Kd.R_mono (Kd.R_told (Kd.R_told (Kd.R_old (rW HO11) hb) (Kd.R_base ho0)) (Kd.R_base ho1)) (fun _ h_ => h_.1))
               replace BK1 := bkB BK1 hb
               replace BK16 := bkB BK16 hb
               replace BK42 := bkB BK42 hb
               replace HB := hbS HB hb
               (try clear hb)
               (try clear ho0)
               (try clear ho1)
               refine hK.out _ _ (bl8 BK16) (fun hHeld => ?_)
               clear hK K
               refine norm_ (a' := ?_) ?_ ?_
               rotate_left
               ·
                show Act.put _ (some 16) _ = _
                simp only [Act.put, List.setIfInBounds_toArray, List.set_cons_zero, List.set_cons_succ, i64_w, i32_w, IntKind.wrap_u32]
                rfl
               exact norm_ (by first | (simp only [putAll, Act.put, List.setIfInBounds_toArray, List.set_cons_zero, List.set_cons_succ]; done) | (simp only [putAll, Act.put, List.setIfInBounds_toArray, List.set_cons_zero, List.set_cons_succ]; rfl)) (hJ1_5 (v20, v23, gb42) _ ⟨hHeld, (by (with_reducible repeat (first | apply Kd.R_alloc | apply Kd.R_drewN | apply Kd.R_drew)); exact Kd.R_mono HO11.out (fun _ hk => ⟨hk.1.2, ⟨hk.2, hk.1.1⟩⟩)), (by (with_reducible repeat (first | apply Kd.R_alloc | apply Kd.R_drewN | apply Kd.R_drew)); exact Kd.R_mono HO21.out (fun _ hk => ⟨hk.2, ⟨hk.1.1, hk.1.2⟩⟩)), (by (with_reducible repeat (first | apply Kd.R_alloc | apply Kd.R_drewN | apply Kd.R_drew)); exact Kd.R_mono HO24.out (fun _ hk => ⟨hk.2, ⟨hk.1.1, hk.1.2⟩⟩)), (by (with_reducible repeat (first | apply Kd.R_alloc | apply Kd.R_drewN | apply Kd.R_drew)); exact Kd.R_mono HO8.out (fun _ hk => ⟨hk.1.1, ⟨hk.1.2, hk.2⟩⟩)), (bkW BK1), (bkW BK16), (bkW BK42), GW42.out, GE42.out, NB1_42.out, NB42_1.out, NB16_42.out, NB42_16.out, (hbW HB)⟩)
              ·
               skip
               refine box_step ?hg (N := 4) ?hd (cs := #[.int .u32 0, .int .i64 0, .slice none 0 0, .slice none 0 0, .int .u32 0, .int .u32 0, .int .i64 0, .int .u32 0]) (t := 38) ?hr ?_; (case hd => rfl); (case hg => rfl); (case hr => first | (go_simp; done) | (go_simp; rfl))
               intro gb41 hg w34 hbox hb
               have BK41 := Aside0.mk (hbox)
               have GW41 := gwS hg HB
               have GE41 := gwS hg HB
               have NB1_41 := nbL hg BK1
               have NB41_1 := nbG hg BK1
               have NB16_41 := nbL hg BK16
               have NB41_16 := nbG hg BK16
               have NB42_41 := nbL hg BK42
               have NB41_42 := nbG hg BK42
               replace HO8 := Aside0.mk (Kd.R_below (rW HO8) hb)
               replace HO11 := Aside0.mk (Kd.R_below (rW HO11) hb)
               replace BK1 := bkB BK1 hb
               replace BK16 := bkB BK16 hb
               replace BK42 := bkB BK42 hb
               replace HB := hbS HB hb
               clear hb hbox hg
               refine hK.out _ _ (bl8 BK16) (fun hHeld => ?_)
               clear hK K
               refine norm_ (a' := ?_) ?_ ?_
               rotate_left
               ·
                show Act.put _ (some 4) _ = _
                simp only [Act.put, List.setIfInBounds_toArray, List.set_cons_zero, List.set_cons_succ, i64_w, i32_w, IntKind.wrap_u32]
                rfl
               exact norm_ (by first | (simp only [putAll, Act.put, List.setIfInBounds_toArray, List.set_cons_zero, List.set_cons_succ]; done) | (simp only [putAll, Act.put, List.setIfInBounds_toArray, List.set_cons_zero, List.set_cons_succ]; rfl)) (hJ4_5 (gb41, gb42) _ ⟨hHeld, (rW HO11), (rW HO8), (bkW BK1), (bkW BK16), (bkW BK41), (bkW BK42), GW41.out, GE41.out, NB1_41.out, NB41_1.out, NB16_41.out, NB41_16.out, NB42_41.out, NB41_42.out, GW42.out, GE42.out, NB1_42.out, NB42_1.out, NB16_42.out, NB42_16.out, (hbW HB)⟩)
            ·
             skip
             rintro gb41 w33 ⟨hS_, h0_, h1_, h2_, h3_, h4_, h5_, h6_, h7_, h8_, h9_, h10_, h11_⟩
             have n0_ : Aside0 (Kd.R (Kd.int .u32) 33 w33 w.heap.size (fun k_ => some k_ ≠ (.slice Ao28 t6.length co28 : Value).ownBlock) (.slice Ao29 t9.length co29) t9) := ⟨h0_⟩
             have n1_ : Aside0 (Kd.R (Kd.int .u32) 33 w33 w.heap.size (fun k_ => some k_ ≠ (.slice Ao29 t9.length co29 : Value).ownBlock) (.slice Ao28 t6.length co28) t6) := ⟨h1_⟩
             have n2_ : Aside0 (w33.heap[gb1]? = some (.cells #[.int .u32 a0_0, .int .i64 a0_1, .slice A0_2 l0_2.length c0_2, .slice A0_3 l0_3.length c0_3, .int .u32 a0_4, .int .u32 a0_5, .int .i64 a0_6, .int .u32 a0_7] 38 (0, 0))) := ⟨h2_⟩
             have n3_ : Aside0 (w33.heap[gb16]? = some (.cells #[.int .u32 t4, .int .i64 t5, .slice Ao28 t6.length co28, .slice Ao29 t9.length co29, .int .u32 t12, .int .u32 t13, .int .i64 t14, .int .u32 t15] 38 (0, 0))) := ⟨h3_⟩
             have n4_ : Aside0 (w33.heap[gb41]? = some (.cells #[.int .u32 0, .int .i64 0, .slice none 0 0, .slice none 0 0, .int .u32 0, .int .u32 0, .int .i64 0, .int .u32 0] 38 (0, 0))) := ⟨h4_⟩
             have n5_ : Aside0 (w.heap.size ≤ gb41) := ⟨h5_⟩
             have n6_ : Aside0 (w.heap.size ≤ gb41) := ⟨h6_⟩
             have n7_ : Aside0 (gb1 ≠ gb41) := ⟨h7_⟩
             have n8_ : Aside0 (gb41 ≠ gb1) := ⟨h8_⟩
             have n9_ : Aside0 (gb16 ≠ gb41) := ⟨h9_⟩
             have n10_ : Aside0 (gb41 ≠ gb16) := ⟨h10_⟩
             have n11_ : Aside0 (Below w.heap.size w w33) := ⟨h11_⟩
             clear HO8 HO11 BK1 BK16 HB h0_ h1_ h2_ h3_ h4_ h5_ h6_ h7_ h8_ h9_ h10_ h11_
             have HO11 := n0_
             have HO8 := n1_
             have BK1 := n2_
             have BK16 := n3_
             have BK41 := n4_
             have GW41 := n5_
             have GE41 := n6_
             have NB1_41 := n7_
             have NB41_1 := n8_
             have NB16_41 := n9_
             have NB41_16 := n10_
             have HB := n11_
             clear n0_ n1_ n2_ n3_ n4_ n5_ n6_ n7_ n8_ n9_ n10_ n11_
             have hHeld : w33.cell? ⟨gb16, 0, none⟩ = some (.int .u32 t4) ∧ w33.cell? ⟨gb16, 1, none⟩ = some (.int .i64 t5) ∧ w33.cell? ⟨gb16, 2, none⟩ = some (.slice Ao28 t6.length co28) ∧ w33.cell? ⟨gb16, 3, none⟩ = some (.slice Ao29 t9.length co29) ∧ w33.cell? ⟨gb16, 4, none⟩ = some (.int .u32 t12) ∧ w33.cell? ⟨gb16, 5, none⟩ = some (.int .u32 t13) ∧ w33.cell? ⟨gb16, 6, none⟩ = some (.int .i64 t14) ∧ w33.cell? ⟨gb16, 7, none⟩ = some (.int .u32 t15) := hS_
             refine norm_ (a' := ?_) ?_ ?_
             rotate_left
             ·
              simp only [putAll, Act.put, List.setIfInBounds_toArray, List.set_cons_zero, List.set_cons_succ]
              rfl
             refine two_ (i := 1) (j := 5) (Ni := some 16) (Nj := some 5) #[true, true, true, false, true, false, false, false] #[true, false, true, false, true, true, false, false] rfl rfl rfl rfl (two_of HT_.out (by kernel_rfl)) (by decide) (by decide) (fun K hK => ?_) (fun K hK => ?_)
             ·
              skip
              refine goes_ Try.func36 (by kernel_rfl) rfl #[.agg #[.int .u32 t4, .int .i64 t5, .slice Ao28 t6.length co28, .slice Ao29 t9.length co29, .int .u32 t12, .int .u32 t13, .int .i64 t14, .int .u32 t15]] (by rfl) rfl rfl (by (try simp only [List.map_toArray, List.map_cons, List.map_nil]); first | done | rfl | (simp only [List.length_drop, List.length_take]; rfl)) ?_
              with_reducible refine (q6z.calls k t4 t5 _ _ t6 _ _ t9 t12 t13 t14 t15 t17 t18 t19 t22 t25 t26 t27 t28 _ ?side1 ?side2 ?side3 ?side4 A11.out).mono ?_
              (case side1 => repeat (first | exact (Kd.R_reads' HO8.out).2.2 | (with_reducible refine Kd.C_alloc ?_ _) | (with_reducible refine Kd.C_drewN ?_ _) | (with_reducible refine Kd.C_drew ?_)))
              (case side2 => exact (Kd.R_reads' HO8.out).2.1)
              (case side3 => repeat (first | exact (Kd.R_reads' HO11.out).2.2 | (with_reducible refine Kd.C_alloc ?_ _) | (with_reducible refine Kd.C_drewN ?_ _) | (with_reducible refine Kd.C_drew ?_)))
              (case side4 => exact (Kd.R_reads' HO11.out).2.1)
              rintro e w34 ⟨v20, v23, rfl, ho0, ho1, hb⟩
              refine ⟨_, rfl, ?_⟩
              have HO21 := Aside0.mk (Kd.R_lower (Kd.R_new' (Kd.R_new' ho0 (Kd.R_lt (rW HO8))) (Kd.R_lt (rW HO11))) (below_size (hbW HB)))
              have HO24 := Aside0.mk (Kd.R_lower (Kd.R_new' (Kd.R_new' ho1 (Kd.R_lt (rW HO8))) (Kd.R_lt (rW HO11))) (below_size (hbW HB)))
              replace HO8 := Aside0.mk (Kd.R_mono (Kd.R_told (Kd.R_told (Kd.R_old (rW HO8) hb) (Kd.R_base ho0)) (Kd.R_base ho1)) (fun _ h_ => h_.1))
              replace HO11 := Aside0.mk (Kd.R_mono (Kd.R_told (Kd.R_told (Kd.R_old (rW HO11) hb) (Kd.R_base ho0)) (Kd.R_base ho1)) (fun _ h_ => h_.1))
              replace BK1 := bkB BK1 hb
              replace BK16 := bkB BK16 hb
              replace BK41 := bkB BK41 hb
              replace HB := hbS HB hb
              (try clear hb)
              (try clear ho0)
              (try clear ho1)
              refine hK.out _ _ (bl8 BK16) (fun hHeld => ?_)
              clear hK K
              refine norm_ (a' := ?_) ?_ ?_
              rotate_left
              ·
               show Act.put _ (some 16) _ = _
               simp only [Act.put, List.setIfInBounds_toArray, List.set_cons_zero, List.set_cons_succ, i64_w, i32_w, IntKind.wrap_u32]
               rfl
              exact norm_ (by first | (simp only [putAll, Act.put, List.setIfInBounds_toArray, List.set_cons_zero, List.set_cons_succ]; done) | (simp only [putAll, Act.put, List.setIfInBounds_toArray, List.set_cons_zero, List.set_cons_succ]; rfl)) (hJ1_4 (v20, v23, gb41) _ ⟨hHeld, (by (with_reducible repeat (first | apply Kd.R_alloc | apply Kd.R_drewN | apply Kd.R_drew)); exact Kd.R_mono HO11.out (fun _ hk => ⟨hk.1.2, ⟨hk.2, hk.1.1⟩⟩)), (by (with_reducible repeat (first | apply Kd.R_alloc | apply Kd.R_drewN | apply Kd.R_drew)); exact Kd.R_mono HO21.out (fun _ hk => ⟨hk.2, ⟨hk.1.1, hk.1.2⟩⟩)), (by (with_reducible repeat (first | apply Kd.R_alloc | apply Kd.R_drewN | apply Kd.R_drew)); exact Kd.R_mono HO24.out (fun _ hk => ⟨hk.2, ⟨hk.1.1, hk.1.2⟩⟩)), (by (with_reducible repeat (first | apply Kd.R_alloc | apply Kd.R_drewN | apply Kd.R_drew)); exact Kd.R_mono HO8.out (fun _ hk => ⟨hk.1.1, ⟨hk.1.2, hk.2⟩⟩)), (bkW BK1), (bkW BK16), (bkW BK41), GW41.out, GE41.out, NB1_41.out, NB41_1.out, NB16_41.out, NB41_16.out, (hbW HB)⟩)
             ·
              skip
              refine box_step ?hg (N := 5) ?hd (cs := #[.int .u32 0, .int .i64 0, .slice none 0 0, .slice none 0 0, .int .u32 0, .int .u32 0, .int .i64 0, .int .u32 0]) (t := 38) ?hr ?_; (case hd => rfl); (case hg => rfl); (case hr => first | (go_simp; done) | (go_simp; rfl))
              intro gb42 hg w34 hbox hb
              have BK42 := Aside0.mk (hbox)
              have GW42 := gwS hg HB
              have GE42 := gwS hg HB
              have NB1_42 := nbL hg BK1
              have NB42_1 := nbG hg BK1
              have NB16_42 := nbL hg BK16
              have NB42_16 := nbG hg BK16
              have NB41_42 := nbL hg BK41
              have NB42_41 := nbG hg BK41
              replace HO8 := Aside0.mk (Kd.R_below (rW HO8) hb)
              replace HO11 := Aside0.mk (Kd.R_below (rW HO11) hb)
              replace BK1 := bkB BK1 hb
              replace BK16 := bkB BK16 hb
              replace BK41 := bkB BK41 hb
              replace HB := hbS HB hb
              clear hb hbox hg
              refine hK.out _ _ (bl8 BK16) (fun hHeld => ?_)
              clear hK K
              refine norm_ (a' := ?_) ?_ ?_
              rotate_left
              ·
               show Act.put _ (some 5) _ = _
               simp only [Act.put, List.setIfInBounds_toArray, List.set_cons_zero, List.set_cons_succ, i64_w, i32_w, IntKind.wrap_u32]
               rfl
              exact norm_ (by first | (simp only [putAll, Act.put, List.setIfInBounds_toArray, List.set_cons_zero, List.set_cons_succ]; done) | (simp only [putAll, Act.put, List.setIfInBounds_toArray, List.set_cons_zero, List.set_cons_succ]; rfl)) (hJ4_5 (gb41, gb42) _ ⟨hHeld, (rW HO11), (rW HO8), (bkW BK1), (bkW BK16), (bkW BK41), (bkW BK42), GW41.out, GE41.out, NB1_41.out, NB41_1.out, NB16_41.out, NB41_16.out, NB42_41.out, NB41_42.out, GW42.out, GE42.out, NB1_42.out, NB42_1.out, NB16_42.out, NB42_16.out, (hbW HB)⟩)
           ·
            skip
            rintro ⟨v20, v23⟩ w33 ⟨hS_, h0_, h1_, h2_, h3_, h4_, h5_, h6_⟩
            have n0_ : Aside0 (Kd.R (Kd.int .u32) 33 w33 w.heap.size (fun k_ => some k_ ≠ (v20 : Value).ownBlock ∧ some k_ ≠ (v23 : Value).ownBlock ∧ some k_ ≠ (.slice Ao28 t6.length co28 : Value).ownBlock) (.slice Ao29 t9.length co29) t9) := ⟨h0_⟩
            have n1_ : Aside0 (Kd.R (Kd.int .u32) 33 w33 w.heap.size (fun k_ => some k_ ≠ (.slice Ao29 t9.length co29 : Value).ownBlock ∧ some k_ ≠ (v23 : Value).ownBlock ∧ some k_ ≠ (.slice Ao28 t6.length co28 : Value).ownBlock) v20 t19) := ⟨h1_⟩
            have n2_ : Aside0 (Kd.R (Kd.int .u32) 33 w33 w.heap.size (fun k_ => some k_ ≠ (.slice Ao29 t9.length co29 : Value).ownBlock ∧ some k_ ≠ (v20 : Value).ownBlock ∧ some k_ ≠ (.slice Ao28 t6.length co28 : Value).ownBlock) v23 t22) := ⟨h2_⟩
            have n3_ : Aside0 (Kd.R (Kd.int .u32) 33 w33 w.heap.size (fun k_ => some k_ ≠ (.slice Ao29 t9.length co29 : Value).ownBlock ∧ some k_ ≠ (v20 : Value).ownBlock ∧ some k_ ≠ (v23 : Value).ownBlock) (.slice Ao28 t6.length co28) t6) := ⟨h3_⟩
            have n4_ : Aside0 (w33.heap[gb1]? = some (.cells #[.int .u32 a0_0, .int .i64 a0_1, .slice A0_2 l0_2.length c0_2, .slice A0_3 l0_3.length c0_3, .int .u32 a0_4, .int .u32 a0_5, .int .i64 a0_6, .int .u32 a0_7] 38 (0, 0))) := ⟨h4_⟩
            have n5_ : Aside0 (w33.heap[gb16]? = some (.cells #[.int .u32 t4, .int .i64 t5, .slice Ao28 t6.length co28, .slice Ao29 t9.length co29, .int .u32 t12, .int .u32 t13, .int .i64 t14, .int .u32 t15] 38 (0, 0))) := ⟨h5_⟩
            have n6_ : Aside0 (Below w.heap.size w w33) := ⟨h6_⟩
            clear HO8 HO11 BK1 BK16 HB h0_ h1_ h2_ h3_ h4_ h5_ h6_
            have HO11 := n0_
            have HO21 := n1_
            have HO24 := n2_
            have HO8 := n3_
            have BK1 := n4_
            have BK16 := n5_
            have HB := n6_
            clear n0_ n1_ n2_ n3_ n4_ n5_ n6_
            have hHeld : w33.cell? ⟨gb16, 0, none⟩ = some (.int .u32 t4) ∧ w33.cell? ⟨gb16, 1, none⟩ = some (.int .i64 t5) ∧ w33.cell? ⟨gb16, 2, none⟩ = some (.slice Ao28 t6.length co28) ∧ w33.cell? ⟨gb16, 3, none⟩ = some (.slice Ao29 t9.length co29) ∧ w33.cell? ⟨gb16, 4, none⟩ = some (.int .u32 t12) ∧ w33.cell? ⟨gb16, 5, none⟩ = some (.int .u32 t13) ∧ w33.cell? ⟨gb16, 6, none⟩ = some (.int .i64 t14) ∧ w33.cell? ⟨gb16, 7, none⟩ = some (.int .u32 t15) := hS_
            refine norm_ (a' := ?_) ?_ ?_
            rotate_left
            ·
             simp only [putAll, Act.put, List.setIfInBounds_toArray, List.set_cons_zero, List.set_cons_succ]
             rfl
            refine three_ (i := 3) (j := 4) (k := 5) (Ni := some 18) (Nj := some 4) (Nk := some 5) #[true, true, true, true, false, false, false, false] #[true, true, true, false, true, false, false, false] #[true, true, true, false, false, true, false, false] rfl rfl rfl rfl rfl rfl (three_of HT_.out (by kernel_rfl)) (by decide) (by decide) (by decide) (fun K hK => ?_) (fun K hK => ?_) (fun K hK => ?_)
            ·
             skip
             refine goes_ Try.func37 (by kernel_rfl) rfl #[.agg #[.int .u32 t4, .int .i64 t5, .slice Ao28 t6.length co28, .slice Ao29 t9.length co29, .int .u32 t12, .int .u32 t13, .int .i64 t14, .int .u32 t15]] (by rfl) rfl rfl (by (try simp only [List.map_toArray, List.map_cons, List.map_nil]); first | done | rfl | (simp only [List.length_drop, List.length_take]; rfl)) ?_
             with_reducible refine (q5z.calls t4 t5 _ _ t6 _ _ t9 t12 t13 t14 t15 t29 t30 t31 t34 t37 t38 t39 t40 _ ?side1 ?side2 ?side3 ?side4 A12.out).mono ?_
             (case side1 => repeat (first | exact (Kd.R_reads' HO8.out).2.2 | (with_reducible refine Kd.C_alloc ?_ _) | (with_reducible refine Kd.C_drewN ?_ _) | (with_reducible refine Kd.C_drew ?_)))
             (case side2 => exact (Kd.R_reads' HO8.out).2.1)
             (case side3 => repeat (first | exact (Kd.R_reads' HO11.out).2.2 | (with_reducible refine Kd.C_alloc ?_ _) | (with_reducible refine Kd.C_drewN ?_ _) | (with_reducible refine Kd.C_drew ?_)))
             (case side4 => exact (Kd.R_reads' HO11.out).2.1)
             rintro e w34 ⟨v32, v35, rfl, ho0, ho1, hb⟩
             refine ⟨_, rfl, ?_⟩
             have HO33 := Aside0.mk (Kd.R_lower (Kd.R_new' (Kd.R_new' (Kd.R_new' (Kd.R_new' ho0 (Kd.R_lt (rW HO8))) (Kd.R_lt (rW HO11))) (Kd.R_lt (rW HO21))) (Kd.R_lt (rW HO24))) (below_size (hbW HB)))
             have HO36 := Aside0.mk (Kd.R_lower (Kd.R_new' (Kd.R_new' (Kd.R_new' (Kd.R_new' ho1 (Kd.R_lt (rW HO8))) (Kd.R_lt (rW HO11))) (Kd.R_lt (rW HO21))) (Kd.R_lt (rW HO24))) (below_size (hbW HB)))
             replace HO8 := Aside0.mk (Kd.R_mono (Kd.R_told (Kd.R_told (Kd.R_old (rW HO8) hb) (Kd.R_base ho0)) (Kd.R_base ho1)) (fun _ h_ => h_.1))
             replace HO11 := Aside0.mk (Kd.R_mono (Kd.R_told (Kd.R_told (Kd.R_old (rW HO11) hb) (Kd.R_base ho0)) (Kd.R_base ho1)) (fun _ h_ => h_.1))
             replace HO21 := Aside0.mk (Kd.R_mono (Kd.R_told (Kd.R_told (Kd.R_old (rW HO21) hb) (Kd.R_base ho0)) (Kd.R_base ho1)) (fun _ h_ => h_.1))
             replace HO24 := Aside0.mk (Kd.R_mono (Kd.R_told (Kd.R_told (Kd.R_old (rW HO24) hb) (Kd.R_base ho0)) (Kd.R_base ho1)) (fun _ h_ => h_.1))
             replace BK1 := bkB BK1 hb
             replace BK16 := bkB BK16 hb
             replace HB := hbS HB hb
             (try clear hb)
             (try clear ho0)
             (try clear ho1)
             refine hK.out _ _ (bl8 BK16) (fun hHeld => ?_)
             clear hK K
             refine norm_ (a' := ?_) ?_ ?_
             rotate_left
             ·
              show Act.put _ (some 18) _ = _
              simp only [Act.put, List.setIfInBounds_toArray, List.set_cons_zero, List.set_cons_succ, i64_w, i32_w, IntKind.wrap_u32]
              rfl
             exact norm_ (by first | (simp only [putAll, Act.put, List.setIfInBounds_toArray, List.set_cons_zero, List.set_cons_succ]; done) | (simp only [putAll, Act.put, List.setIfInBounds_toArray, List.set_cons_zero, List.set_cons_succ]; rfl)) (hJ1_3 (v20, v23, v32, v35) _ ⟨hHeld, (by (with_reducible repeat (first | apply Kd.R_alloc | apply Kd.R_drewN | apply Kd.R_drew)); exact Kd.R_mono HO11.out (fun _ hk => ⟨hk.1.1.1, ⟨hk.1.1.2.1, ⟨hk.1.2, ⟨hk.2, hk.1.1.2.2⟩⟩⟩⟩)), (by (with_reducible repeat (first | apply Kd.R_alloc | apply Kd.R_drewN | apply Kd.R_drew)); exact Kd.R_mono HO21.out (fun _ hk => ⟨hk.1.1.1, ⟨hk.1.1.2.1, ⟨hk.1.2, ⟨hk.2, hk.1.1.2.2⟩⟩⟩⟩)), (by (with_reducible repeat (first | apply Kd.R_alloc | apply Kd.R_drewN | apply Kd.R_drew)); exact Kd.R_mono HO24.out (fun _ hk => ⟨hk.1.1.1, ⟨hk.1.1.2.1, ⟨hk.1.2, ⟨hk.2, hk.1.1.2.2⟩⟩⟩⟩)), (by (with_reducible repeat (first | apply Kd.R_alloc | apply Kd.R_drewN | apply Kd.R_drew)); exact Kd.R_mono HO33.out (fun _ hk => ⟨hk.1.1.2, ⟨hk.1.2, ⟨hk.2, ⟨hk.1.1.1.1, hk.1.1.1.2⟩⟩⟩⟩)), (by (with_reducible repeat (first | apply Kd.R_alloc | apply Kd.R_drewN | apply Kd.R_drew)); exact Kd.R_mono HO36.out (fun _ hk => ⟨hk.1.1.2, ⟨hk.1.2, ⟨hk.2, ⟨hk.1.1.1.1, hk.1.1.1.2⟩⟩⟩⟩)), (by (with_reducible repeat (first | apply Kd.R_alloc | apply Kd.R_drewN | apply Kd.R_drew)); exact Kd.R_mono HO8.out (fun _ hk => ⟨hk.1.1.1, ⟨hk.1.1.2.1, ⟨hk.1.1.2.2, ⟨hk.1.2, hk.2⟩⟩⟩⟩)), (bkW BK1), (bkW BK16), (hbW HB)⟩)
            ·
             skip
             refine box_step ?hg (N := 4) ?hd (cs := #[.int .u32 0, .int .i64 0, .slice none 0 0, .slice none 0 0, .int .u32 0, .int .u32 0, .int .i64 0, .int .u32 0]) (t := 38) ?hr ?_; (case hd => rfl); (case hg => rfl); (case hr => first | (go_simp; done) | (go_simp; rfl))
             intro gb41 hg w34 hbox hb
             have BK41 := Aside0.mk (hbox)
             have GW41 := gwS hg HB
             have GE41 := gwS hg HB
             have NB1_41 := nbL hg BK1
             have NB41_1 := nbG hg BK1
             have NB16_41 := nbL hg BK16
             have NB41_16 := nbG hg BK16
             replace HO8 := Aside0.mk (Kd.R_below (rW HO8) hb)
             replace HO11 := Aside0.mk (Kd.R_below (rW HO11) hb)
             replace HO21 := Aside0.mk (Kd.R_below (rW HO21) hb)
             replace HO24 := Aside0.mk (Kd.R_below (rW HO24) hb)
             replace BK1 := bkB BK1 hb
             replace BK16 := bkB BK16 hb
             replace HB := hbS HB hb
             clear hb hbox hg
             refine hK.out _ _ (bl8 BK16) (fun hHeld => ?_)
             clear hK K
             refine norm_ (a' := ?_) ?_ ?_
             rotate_left
             ·
              show Act.put _ (some 4) _ = _
              simp only [Act.put, List.setIfInBounds_toArray, List.set_cons_zero, List.set_cons_succ, i64_w, i32_w, IntKind.wrap_u32]
              rfl
             exact norm_ (by first | (simp only [putAll, Act.put, List.setIfInBounds_toArray, List.set_cons_zero, List.set_cons_succ]; done) | (simp only [putAll, Act.put, List.setIfInBounds_toArray, List.set_cons_zero, List.set_cons_succ]; rfl)) (hJ1_4 (v20, v23, gb41) _ ⟨hHeld, (rW HO11), (rW HO21), (rW HO24), (rW HO8), (bkW BK1), (bkW BK16), (bkW BK41), GW41.out, GE41.out, NB1_41.out, NB41_1.out, NB16_41.out, NB41_16.out, (hbW HB)⟩)
            ·
             skip
             refine box_step ?hg (N := 5) ?hd (cs := #[.int .u32 0, .int .i64 0, .slice none 0 0, .slice none 0 0, .int .u32 0, .int .u32 0, .int .i64 0, .int .u32 0]) (t := 38) ?hr ?_; (case hd => rfl); (case hg => rfl); (case hr => first | (go_simp; done) | (go_simp; rfl))
             intro gb42 hg w34 hbox hb
             have BK42 := Aside0.mk (hbox)
             have GW42 := gwS hg HB
             have GE42 := gwS hg HB
             have NB1_42 := nbL hg BK1
             have NB42_1 := nbG hg BK1
             have NB16_42 := nbL hg BK16
             have NB42_16 := nbG hg BK16
             replace HO8 := Aside0.mk (Kd.R_below (rW HO8) hb)
             replace HO11 := Aside0.mk (Kd.R_below (rW HO11) hb)
             replace HO21 := Aside0.mk (Kd.R_below (rW HO21) hb)
             replace HO24 := Aside0.mk (Kd.R_below (rW HO24) hb)
             replace BK1 := bkB BK1 hb
             replace BK16 := bkB BK16 hb
             replace HB := hbS HB hb
             clear hb hbox hg
             refine hK.out _ _ (bl8 BK16) (fun hHeld => ?_)
             clear hK K
             refine norm_ (a' := ?_) ?_ ?_
             rotate_left
             ·
              show Act.put _ (some 5) _ = _
              simp only [Act.put, List.setIfInBounds_toArray, List.set_cons_zero, List.set_cons_succ, i64_w, i32_w, IntKind.wrap_u32]
              rfl
             exact norm_ (by first | (simp only [putAll, Act.put, List.setIfInBounds_toArray, List.set_cons_zero, List.set_cons_succ]; done) | (simp only [putAll, Act.put, List.setIfInBounds_toArray, List.set_cons_zero, List.set_cons_succ]; rfl)) (hJ1_5 (v20, v23, gb42) _ ⟨hHeld, (rW HO11), (rW HO21), (rW HO24), (rW HO8), (bkW BK1), (bkW BK16), (bkW BK42), GW42.out, GE42.out, NB1_42.out, NB42_1.out, NB16_42.out, NB42_16.out, (hbW HB)⟩)
          ·
           skip
           rintro ⟨gb41, gb42⟩ w34 ⟨hS_, h0_, h1_, h2_, h3_, h4_, h5_, h6_, h7_, h8_, h9_, h10_, h11_, h12_, h13_, h14_, h15_, h16_, h17_, h18_, h19_, h20_⟩
           have n0_ : Aside0 (Kd.R (Kd.int .u32) 33 w34 w.heap.size (fun k_ => some k_ ≠ (.slice Ao28 t6.length co28 : Value).ownBlock) (.slice Ao29 t9.length co29) t9) := ⟨h0_⟩
           have n1_ : Aside0 (Kd.R (Kd.int .u32) 33 w34 w.heap.size (fun k_ => some k_ ≠ (.slice Ao29 t9.length co29 : Value).ownBlock) (.slice Ao28 t6.length co28) t6) := ⟨h1_⟩
           have n2_ : Aside0 (w34.heap[gb1]? = some (.cells #[.int .u32 a0_0, .int .i64 a0_1, .slice A0_2 l0_2.length c0_2, .slice A0_3 l0_3.length c0_3, .int .u32 a0_4, .int .u32 a0_5, .int .i64 a0_6, .int .u32 a0_7] 38 (0, 0))) := ⟨h2_⟩
           have n3_ : Aside0 (w34.heap[gb16]? = some (.cells #[.int .u32 t4, .int .i64 t5, .slice Ao28 t6.length co28, .slice Ao29 t9.length co29, .int .u32 t12, .int .u32 t13, .int .i64 t14, .int .u32 t15] 38 (0, 0))) := ⟨h3_⟩
           have n4_ : Aside0 (w34.heap[gb41]? = some (.cells #[.int .u32 0, .int .i64 0, .slice none 0 0, .slice none 0 0, .int .u32 0, .int .u32 0, .int .i64 0, .int .u32 0] 38 (0, 0))) := ⟨h4_⟩
           have n5_ : Aside0 (w34.heap[gb42]? = some (.cells #[.int .u32 0, .int .i64 0, .slice none 0 0, .slice none 0 0, .int .u32 0, .int .u32 0, .int .i64 0, .int .u32 0] 38 (0, 0))) := ⟨h5_⟩
           have n6_ : Aside0 (w.heap.size ≤ gb41) := ⟨h6_⟩
           have n7_ : Aside0 (w.heap.size ≤ gb41) := ⟨h7_⟩
           have n8_ : Aside0 (gb1 ≠ gb41) := ⟨h8_⟩
           have n9_ : Aside0 (gb41 ≠ gb1) := ⟨h9_⟩
           have n10_ : Aside0 (gb16 ≠ gb41) := ⟨h10_⟩
           have n11_ : Aside0 (gb41 ≠ gb16) := ⟨h11_⟩
           have n12_ : Aside0 (gb42 ≠ gb41) := ⟨h12_⟩
           have n13_ : Aside0 (gb41 ≠ gb42) := ⟨h13_⟩
           have n14_ : Aside0 (w.heap.size ≤ gb42) := ⟨h14_⟩
           have n15_ : Aside0 (w.heap.size ≤ gb42) := ⟨h15_⟩
           have n16_ : Aside0 (gb1 ≠ gb42) := ⟨h16_⟩
           have n17_ : Aside0 (gb42 ≠ gb1) := ⟨h17_⟩
           have n18_ : Aside0 (gb16 ≠ gb42) := ⟨h18_⟩
           have n19_ : Aside0 (gb42 ≠ gb16) := ⟨h19_⟩
           have n20_ : Aside0 (Below w.heap.size w w34) := ⟨h20_⟩
           clear HO8 HO11 BK1 BK16 HB h0_ h1_ h2_ h3_ h4_ h5_ h6_ h7_ h8_ h9_ h10_ h11_ h12_ h13_ h14_ h15_ h16_ h17_ h18_ h19_ h20_
           have HO11 := n0_
           have HO8 := n1_
           have BK1 := n2_
           have BK16 := n3_
           have BK41 := n4_
           have BK42 := n5_
           have GW41 := n6_
           have GE41 := n7_
           have NB1_41 := n8_
           have NB41_1 := n9_
           have NB16_41 := n10_
           have NB41_16 := n11_
           have NB42_41 := n12_
           have NB41_42 := n13_
           have GW42 := n14_
           have GE42 := n15_
           have NB1_42 := n16_
           have NB42_1 := n17_
           have NB16_42 := n18_
           have NB42_16 := n19_
           have HB := n20_
           clear n0_ n1_ n2_ n3_ n4_ n5_ n6_ n7_ n8_ n9_ n10_ n11_ n12_ n13_ n14_ n15_ n16_ n17_ n18_ n19_ n20_
           have hHeld : w34.cell? ⟨gb16, 0, none⟩ = some (.int .u32 t4) ∧ w34.cell? ⟨gb16, 1, none⟩ = some (.int .i64 t5) ∧ w34.cell? ⟨gb16, 2, none⟩ = some (.slice Ao28 t6.length co28) ∧ w34.cell? ⟨gb16, 3, none⟩ = some (.slice Ao29 t9.length co29) ∧ w34.cell? ⟨gb16, 4, none⟩ = some (.int .u32 t12) ∧ w34.cell? ⟨gb16, 5, none⟩ = some (.int .u32 t13) ∧ w34.cell? ⟨gb16, 6, none⟩ = some (.int .i64 t14) ∧ w34.cell? ⟨gb16, 7, none⟩ = some (.int .u32 t15) := hS_
           refine norm_ (a' := ?_) ?_ ?_
           rotate_left
           ·
            simp only [putAll, Act.put, List.setIfInBounds_toArray, List.set_cons_zero, List.set_cons_succ]
            rfl
           refine one_ (i := 1) (N := some 16) #[true, true, true, false, true, true, false, false] rfl rfl (one_of HT_.out (by kernel_rfl)) (by decide) (fun K hK => ?_)
           refine goes_ Try.func36 (by kernel_rfl) rfl #[.agg #[.int .u32 t4, .int .i64 t5, .slice Ao28 t6.length co28, .slice Ao29 t9.length co29, .int .u32 t12, .int .u32 t13, .int .i64 t14, .int .u32 t15]] (by rfl) rfl rfl (by (try simp only [List.map_toArray, List.map_cons, List.map_nil]); first | done | rfl | (simp only [List.length_drop, List.length_take]; rfl)) ?_
           with_reducible refine (q6z.calls k t4 t5 _ _ t6 _ _ t9 t12 t13 t14 t15 t17 t18 t19 t22 t25 t26 t27 t28 _ ?side1 ?side2 ?side3 ?side4 A11.out).mono ?_
           (case side1 => repeat (first | exact (Kd.R_reads' HO8.out).2.2 | (with_reducible refine Kd.C_alloc ?_ _) | (with_reducible refine Kd.C_drewN ?_ _) | (with_reducible refine Kd.C_drew ?_)))
           (case side2 => exact (Kd.R_reads' HO8.out).2.1)
           (case side3 => repeat (first | exact (Kd.R_reads' HO11.out).2.2 | (with_reducible refine Kd.C_alloc ?_ _) | (with_reducible refine Kd.C_drewN ?_ _) | (with_reducible refine Kd.C_drew ?_)))
           (case side4 => exact (Kd.R_reads' HO11.out).2.1)
           rintro e w35 ⟨v20, v23, rfl, ho0, ho1, hb⟩
           refine ⟨_, rfl, ?_⟩
           have HO21 := Aside0.mk (Kd.R_lower (Kd.R_new' (Kd.R_new' ho0 (Kd.R_lt (rW HO8))) (Kd.R_lt (rW HO11))) (below_size (hbW HB)))
           have HO24 := Aside0.mk (Kd.R_lower (Kd.R_new' (Kd.R_new' ho1 (Kd.R_lt (rW HO8))) (Kd.R_lt (rW HO11))) (below_size (hbW HB)))
           replace HO8 := Aside0.mk (Kd.R_mono (Kd.R_told (Kd.R_told (Kd.R_old (rW HO8) hb) (Kd.R_base ho0)) (Kd.R_base ho1)) (fun _ h_ => h_.1))
           replace HO11 := Aside0.mk (Kd.R_mono (Kd.R_told (Kd.R_told (Kd.R_old (rW HO11) hb) (Kd.R_base ho0)) (Kd.R_base ho1)) (fun _ h_ => h_.1))
           replace BK1 := bkB BK1 hb
           replace BK16 := bkB BK16 hb
           replace BK41 := bkB BK41 hb
           replace BK42 := bkB BK42 hb
           replace HB := hbS HB hb
           (try clear hb)
           (try clear ho0)
           (try clear ho1)
           refine hK.out _ _ (bl8 BK16) (fun hHeld => ?_)
           clear hK K
           refine norm_ (a' := ?_) ?_ ?_
           rotate_left
           ·
            show Act.put _ (some 16) _ = _
            simp only [Act.put, List.setIfInBounds_toArray, List.set_cons_zero, List.set_cons_succ, i64_w, i32_w, IntKind.wrap_u32]
            rfl
           exact norm_ (by first | (simp only [putAll, Act.put, List.setIfInBounds_toArray, List.set_cons_zero, List.set_cons_succ]; done) | (simp only [putAll, Act.put, List.setIfInBounds_toArray, List.set_cons_zero, List.set_cons_succ]; rfl)) (hJ1_4_5 (v20, v23, gb41, gb42) _ ⟨hHeld, (by (with_reducible repeat (first | apply Kd.R_alloc | apply Kd.R_drewN | apply Kd.R_drew)); exact Kd.R_mono HO11.out (fun _ hk => ⟨hk.1.2, ⟨hk.2, hk.1.1⟩⟩)), (by (with_reducible repeat (first | apply Kd.R_alloc | apply Kd.R_drewN | apply Kd.R_drew)); exact Kd.R_mono HO21.out (fun _ hk => ⟨hk.2, ⟨hk.1.1, hk.1.2⟩⟩)), (by (with_reducible repeat (first | apply Kd.R_alloc | apply Kd.R_drewN | apply Kd.R_drew)); exact Kd.R_mono HO24.out (fun _ hk => ⟨hk.2, ⟨hk.1.1, hk.1.2⟩⟩)), (by (with_reducible repeat (first | apply Kd.R_alloc | apply Kd.R_drewN | apply Kd.R_drew)); exact Kd.R_mono HO8.out (fun _ hk => ⟨hk.1.1, ⟨hk.1.2, hk.2⟩⟩)), (bkW BK1), (bkW BK16), (bkW BK41), (bkW BK42), GW41.out, GE41.out, NB1_41.out, NB41_1.out, NB16_41.out, NB41_16.out, NB42_41.out, NB41_42.out, GW42.out, GE42.out, NB1_42.out, NB42_1.out, NB16_42.out, NB42_16.out, (hbW HB)⟩)
         ·
          skip
          rintro ⟨v20, v23, gb42⟩ w34 ⟨hS_, h0_, h1_, h2_, h3_, h4_, h5_, h6_, h7_, h8_, h9_, h10_, h11_, h12_, h13_⟩
          have n0_ : Aside0 (Kd.R (Kd.int .u32) 33 w34 w.heap.size (fun k_ => some k_ ≠ (v20 : Value).ownBlock ∧ some k_ ≠ (v23 : Value).ownBlock ∧ some k_ ≠ (.slice Ao28 t6.length co28 : Value).ownBlock) (.slice Ao29 t9.length co29) t9) := ⟨h0_⟩
          have n1_ : Aside0 (Kd.R (Kd.int .u32) 33 w34 w.heap.size (fun k_ => some k_ ≠ (.slice Ao29 t9.length co29 : Value).ownBlock ∧ some k_ ≠ (v23 : Value).ownBlock ∧ some k_ ≠ (.slice Ao28 t6.length co28 : Value).ownBlock) v20 t19) := ⟨h1_⟩
          have n2_ : Aside0 (Kd.R (Kd.int .u32) 33 w34 w.heap.size (fun k_ => some k_ ≠ (.slice Ao29 t9.length co29 : Value).ownBlock ∧ some k_ ≠ (v20 : Value).ownBlock ∧ some k_ ≠ (.slice Ao28 t6.length co28 : Value).ownBlock) v23 t22) := ⟨h2_⟩
          have n3_ : Aside0 (Kd.R (Kd.int .u32) 33 w34 w.heap.size (fun k_ => some k_ ≠ (.slice Ao29 t9.length co29 : Value).ownBlock ∧ some k_ ≠ (v20 : Value).ownBlock ∧ some k_ ≠ (v23 : Value).ownBlock) (.slice Ao28 t6.length co28) t6) := ⟨h3_⟩
          have n4_ : Aside0 (w34.heap[gb1]? = some (.cells #[.int .u32 a0_0, .int .i64 a0_1, .slice A0_2 l0_2.length c0_2, .slice A0_3 l0_3.length c0_3, .int .u32 a0_4, .int .u32 a0_5, .int .i64 a0_6, .int .u32 a0_7] 38 (0, 0))) := ⟨h4_⟩
          have n5_ : Aside0 (w34.heap[gb16]? = some (.cells #[.int .u32 t4, .int .i64 t5, .slice Ao28 t6.length co28, .slice Ao29 t9.length co29, .int .u32 t12, .int .u32 t13, .int .i64 t14, .int .u32 t15] 38 (0, 0))) := ⟨h5_⟩
          have n6_ : Aside0 (w34.heap[gb42]? = some (.cells #[.int .u32 0, .int .i64 0, .slice none 0 0, .slice none 0 0, .int .u32 0, .int .u32 0, .int .i64 0, .int .u32 0] 38 (0, 0))) := ⟨h6_⟩
          have n7_ : Aside0 (w.heap.size ≤ gb42) := ⟨h7_⟩
          have n8_ : Aside0 (w.heap.size ≤ gb42) := ⟨h8_⟩
          have n9_ : Aside0 (gb1 ≠ gb42) := ⟨h9_⟩
          have n10_ : Aside0 (gb42 ≠ gb1) := ⟨h10_⟩
          have n11_ : Aside0 (gb16 ≠ gb42) := ⟨h11_⟩
          have n12_ : Aside0 (gb42 ≠ gb16) := ⟨h12_⟩
          have n13_ : Aside0 (Below w.heap.size w w34) := ⟨h13_⟩
          clear HO8 HO11 BK1 BK16 HB h0_ h1_ h2_ h3_ h4_ h5_ h6_ h7_ h8_ h9_ h10_ h11_ h12_ h13_
          have HO11 := n0_
          have HO21 := n1_
          have HO24 := n2_
          have HO8 := n3_
          have BK1 := n4_
          have BK16 := n5_
          have BK42 := n6_
          have GW42 := n7_
          have GE42 := n8_
          have NB1_42 := n9_
          have NB42_1 := n10_
          have NB16_42 := n11_
          have NB42_16 := n12_
          have HB := n13_
          clear n0_ n1_ n2_ n3_ n4_ n5_ n6_ n7_ n8_ n9_ n10_ n11_ n12_ n13_
          have hHeld : w34.cell? ⟨gb16, 0, none⟩ = some (.int .u32 t4) ∧ w34.cell? ⟨gb16, 1, none⟩ = some (.int .i64 t5) ∧ w34.cell? ⟨gb16, 2, none⟩ = some (.slice Ao28 t6.length co28) ∧ w34.cell? ⟨gb16, 3, none⟩ = some (.slice Ao29 t9.length co29) ∧ w34.cell? ⟨gb16, 4, none⟩ = some (.int .u32 t12) ∧ w34.cell? ⟨gb16, 5, none⟩ = some (.int .u32 t13) ∧ w34.cell? ⟨gb16, 6, none⟩ = some (.int .i64 t14) ∧ w34.cell? ⟨gb16, 7, none⟩ = some (.int .u32 t15) := hS_
          refine norm_ (a' := ?_) ?_ ?_
          rotate_left
          ·
           simp only [putAll, Act.put, List.setIfInBounds_toArray, List.set_cons_zero, List.set_cons_succ]
           rfl
          refine two_ (i := 3) (j := 4) (Ni := some 18) (Nj := some 4) #[true, true, true, true, false, true, false, false] #[true, true, true, false, true, true, false, false] rfl rfl rfl rfl (two_of HT_.out (by kernel_rfl)) (by decide) (by decide) (fun K hK => ?_) (fun K hK => ?_)
          ·
           skip
           refine goes_ Try.func37 (by kernel_rfl) rfl #[.agg #[.int .u32 t4, .int .i64 t5, .slice Ao28 t6.length co28, .slice Ao29 t9.length co29, .int .u32 t12, .int .u32 t13, .int .i64 t14, .int .u32 t15]] (by rfl) rfl rfl (by (try simp only [List.map_toArray, List.map_cons, List.map_nil]); first | done | rfl | (simp only [List.length_drop, List.length_take]; rfl)) ?_
           with_reducible refine (q5z.calls t4 t5 _ _ t6 _ _ t9 t12 t13 t14 t15 t29 t30 t31 t34 t37 t38 t39 t40 _ ?side1 ?side2 ?side3 ?side4 A12.out).mono ?_
           (case side1 => repeat (first | exact (Kd.R_reads' HO8.out).2.2 | (with_reducible refine Kd.C_alloc ?_ _) | (with_reducible refine Kd.C_drewN ?_ _) | (with_reducible refine Kd.C_drew ?_)))
           (case side2 => exact (Kd.R_reads' HO8.out).2.1)
           (case side3 => repeat (first | exact (Kd.R_reads' HO11.out).2.2 | (with_reducible refine Kd.C_alloc ?_ _) | (with_reducible refine Kd.C_drewN ?_ _) | (with_reducible refine Kd.C_drew ?_)))
           (case side4 => exact (Kd.R_reads' HO11.out).2.1)
           rintro e w35 ⟨v32, v35, rfl, ho0, ho1, hb⟩
           refine ⟨_, rfl, ?_⟩
           have HO33 := Aside0.mk (Kd.R_lower (Kd.R_new' (Kd.R_new' (Kd.R_new' (Kd.R_new' ho0 (Kd.R_lt (rW HO8))) (Kd.R_lt (rW HO11))) (Kd.R_lt (rW HO21))) (Kd.R_lt (rW HO24))) (below_size (hbW HB)))
           have HO36 := Aside0.mk (Kd.R_lower (Kd.R_new' (Kd.R_new' (Kd.R_new' (Kd.R_new' ho1 (Kd.R_lt (rW HO8))) (Kd.R_lt (rW HO11))) (Kd.R_lt (rW HO21))) (Kd.R_lt (rW HO24))) (below_size (hbW HB)))
           replace HO8 := Aside0.mk (Kd.R_mono (Kd.R_told (Kd.R_told (Kd.R_old (rW HO8) hb) (Kd.R_base ho0)) (Kd.R_base ho1)) (fun _ h_ => h_.1))
           replace HO11 := Aside0.mk (Kd.R_mono (Kd.R_told (Kd.R_told (Kd.R_old (rW HO11) hb) (Kd.R_base ho0)) (Kd.R_base ho1)) (fun _ h_ => h_.1))
           replace HO21 := Aside0.mk (Kd.R_mono (Kd.R_told (Kd.R_told (Kd.R_old (rW HO21) hb) (Kd.R_base ho0)) (Kd.R_base ho1)) (fun _ h_ => h_.1))
           replace HO24 := Aside0.mk (Kd.R_mono (Kd.R_told (Kd.R_told (Kd.R_old (rW HO24) hb) (Kd.R_base ho0)) (Kd.R_base ho1)) (fun _ h_ => h_.1))
           replace BK1 := bkB BK1 hb
           replace BK16 := bkB BK16 hb
           replace BK42 := bkB BK42 hb
           replace HB := hbS HB hb
           (try clear hb)
           (try clear hk)
           (try clear ho0)
           (try clear ho1)
           refine hK.out _ _ (bl8 BK16) (fun hHeld => ?_)
           clear hK K
           refine norm_ (a' := ?_) ?_ ?_
           rotate_left
           ·
            show Act.put _ (some 18) _ = _
            simp only [Act.put, List.setIfInBounds_toArray, List.set_cons_zero, List.set_cons_succ, i64_w, i32_w, IntKind.wrap_u32]
            rfl
           exact norm_ (by first | (simp only [putAll, Act.put, List.setIfInBounds_toArray, List.set_cons_zero, List.set_cons_succ]; done) | (simp only [putAll, Act.put, List.setIfInBounds_toArray, List.set_cons_zero, List.set_cons_succ]; rfl)) (hJ1_3_5 (v20, v23, v32, v35, gb42) _ ⟨hHeld, (by (with_reducible repeat (first | apply Kd.R_alloc | apply Kd.R_drewN | apply Kd.R_drew)); exact Kd.R_mono HO11.out (fun _ hk => ⟨hk.1.1.1, ⟨hk.1.1.2.1, ⟨hk.1.2, ⟨hk.2, hk.1.1.2.2⟩⟩⟩⟩)), (by (with_reducible repeat (first | apply Kd.R_alloc | apply Kd.R_drewN | apply Kd.R_drew)); exact Kd.R_mono HO21.out (fun _ hk => ⟨hk.1.1.1, ⟨hk.1.1.2.1, ⟨hk.1.2, ⟨hk.2, hk.1.1.2.2⟩⟩⟩⟩)), (by (with_reducible repeat (first | apply Kd.R_alloc | apply Kd.R_drewN | apply Kd.R_drew)); exact Kd.R_mono HO24.out (fun _ hk => ⟨hk.1.1.1, ⟨hk.1.1.2.1, ⟨hk.1.2, ⟨hk.2, hk.1.1.2.2⟩⟩⟩⟩)), (by (with_reducible repeat (first | apply Kd.R_alloc | apply Kd.R_drewN | apply Kd.R_drew)); exact Kd.R_mono HO33.out (fun _ hk => ⟨hk.1.1.2, ⟨hk.1.2, ⟨hk.2, ⟨hk.1.1.1.1, hk.1.1.1.2⟩⟩⟩⟩)), (by (with_reducible repeat (first | apply Kd.R_alloc | apply Kd.R_drewN | apply Kd.R_drew)); exact Kd.R_mono HO36.out (fun _ hk => ⟨hk.1.1.2, ⟨hk.1.2, ⟨hk.2, ⟨hk.1.1.1.1, hk.1.1.1.2⟩⟩⟩⟩)), (by (with_reducible repeat (first | apply Kd.R_alloc | apply Kd.R_drewN | apply Kd.R_drew)); exact Kd.R_mono HO8.out (fun _ hk => ⟨hk.1.1.1, ⟨hk.1.1.2.1, ⟨hk.1.1.2.2, ⟨hk.1.2, hk.2⟩⟩⟩⟩)), (bkW BK1), (bkW BK16), (bkW BK42), GW42.out, GE42.out, NB1_42.out, NB42_1.out, NB16_42.out, NB42_16.out, (hbW HB)⟩)
          ·
           skip
           refine box_step ?hg (N := 4) ?hd (cs := #[.int .u32 0, .int .i64 0, .slice none 0 0, .slice none 0 0, .int .u32 0, .int .u32 0, .int .i64 0, .int .u32 0]) (t := 38) ?hr ?_; (case hd => rfl); (case hg => rfl); (case hr => first | (go_simp; done) | (go_simp; rfl))
           intro gb41 hg w35 hbox hb
           have BK41 := Aside0.mk (hbox)
           have GW41 := gwS hg HB
           have GE41 := gwS hg HB
           have NB1_41 := nbL hg BK1
           have NB41_1 := nbG hg BK1
           have NB16_41 := nbL hg BK16
           have NB41_16 := nbG hg BK16
           have NB42_41 := nbL hg BK42
           have NB41_42 := nbG hg BK42
           replace HO8 := Aside0.mk (Kd.R_below (rW HO8) hb)
           replace HO11 := Aside0.mk (Kd.R_below (rW HO11) hb)
           replace HO21 := Aside0.mk (Kd.R_below (rW HO21) hb)
           replace HO24 := Aside0.mk (Kd.R_below (rW HO24) hb)
           replace BK1 := bkB BK1 hb
           replace BK16 := bkB BK16 hb
           replace BK42 := bkB BK42 hb
           replace HB := hbS HB hb
           clear hb hbox hg
           refine hK.out _ _ (bl8 BK16) (fun hHeld => ?_)
           clear hK K
           refine norm_ (a' := ?_) ?_ ?_
           rotate_left
           ·
            show Act.put _ (some 4) _ = _
            simp only [Act.put, List.setIfInBounds_toArray, List.set_cons_zero, List.set_cons_succ, i64_w, i32_w, IntKind.wrap_u32]
            rfl
           exact norm_ (by first | (simp only [putAll, Act.put, List.setIfInBounds_toArray, List.set_cons_zero, List.set_cons_succ]; done) | (simp only [putAll, Act.put, List.setIfInBounds_toArray, List.set_cons_zero, List.set_cons_succ]; rfl)) (hJ1_4_5 (v20, v23, gb41, gb42) _ ⟨hHeld, (rW HO11), (rW HO21), (rW HO24), (rW HO8), (bkW BK1), (bkW BK16), (bkW BK41), (bkW BK42), GW41.out, GE41.out, NB1_41.out, NB41_1.out, NB16_41.out, NB41_16.out, NB42_41.out, NB41_42.out, GW42.out, GE42.out, NB1_42.out, NB42_1.out, NB16_42.out, NB42_16.out, (hbW HB)⟩)
        ·
         skip
         rintro ⟨v20, v23, gb41⟩ w34 ⟨hS_, h0_, h1_, h2_, h3_, h4_, h5_, h6_, h7_, h8_, h9_, h10_, h11_, h12_, h13_⟩
         have n0_ : Aside0 (Kd.R (Kd.int .u32) 33 w34 w.heap.size (fun k_ => some k_ ≠ (v20 : Value).ownBlock ∧ some k_ ≠ (v23 : Value).ownBlock ∧ some k_ ≠ (.slice Ao28 t6.length co28 : Value).ownBlock) (.slice Ao29 t9.length co29) t9) := ⟨h0_⟩
         have n1_ : Aside0 (Kd.R (Kd.int .u32) 33 w34 w.heap.size (fun k_ => some k_ ≠ (.slice Ao29 t9.length co29 : Value).ownBlock ∧ some k_ ≠ (v23 : Value).ownBlock ∧ some k_ ≠ (.slice Ao28 t6.length co28 : Value).ownBlock) v20 t19) := ⟨h1_⟩
         have n2_ : Aside0 (Kd.R (Kd.int .u32) 33 w34 w.heap.size (fun k_ => some k_ ≠ (.slice Ao29 t9.length co29 : Value).ownBlock ∧ some k_ ≠ (v20 : Value).ownBlock ∧ some k_ ≠ (.slice Ao28 t6.length co28 : Value).ownBlock) v23 t22) := ⟨h2_⟩
         have n3_ : Aside0 (Kd.R (Kd.int .u32) 33 w34 w.heap.size (fun k_ => some k_ ≠ (.slice Ao29 t9.length co29 : Value).ownBlock ∧ some k_ ≠ (v20 : Value).ownBlock ∧ some k_ ≠ (v23 : Value).ownBlock) (.slice Ao28 t6.length co28) t6) := ⟨h3_⟩
         have n4_ : Aside0 (w34.heap[gb1]? = some (.cells #[.int .u32 a0_0, .int .i64 a0_1, .slice A0_2 l0_2.length c0_2, .slice A0_3 l0_3.length c0_3, .int .u32 a0_4, .int .u32 a0_5, .int .i64 a0_6, .int .u32 a0_7] 38 (0, 0))) := ⟨h4_⟩
         have n5_ : Aside0 (w34.heap[gb16]? = some (.cells #[.int .u32 t4, .int .i64 t5, .slice Ao28 t6.length co28, .slice Ao29 t9.length co29, .int .u32 t12, .int .u32 t13, .int .i64 t14, .int .u32 t15] 38 (0, 0))) := ⟨h5_⟩
         have n6_ : Aside0 (w34.heap[gb41]? = some (.cells #[.int .u32 0, .int .i64 0, .slice none 0 0, .slice none 0 0, .int .u32 0, .int .u32 0, .int .i64 0, .int .u32 0] 38 (0, 0))) := ⟨h6_⟩
         have n7_ : Aside0 (w.heap.size ≤ gb41) := ⟨h7_⟩
         have n8_ : Aside0 (w.heap.size ≤ gb41) := ⟨h8_⟩
         have n9_ : Aside0 (gb1 ≠ gb41) := ⟨h9_⟩
         have n10_ : Aside0 (gb41 ≠ gb1) := ⟨h10_⟩
         have n11_ : Aside0 (gb16 ≠ gb41) := ⟨h11_⟩
         have n12_ : Aside0 (gb41 ≠ gb16) := ⟨h12_⟩
         have n13_ : Aside0 (Below w.heap.size w w34) := ⟨h13_⟩
         clear HO8 HO11 BK1 BK16 HB h0_ h1_ h2_ h3_ h4_ h5_ h6_ h7_ h8_ h9_ h10_ h11_ h12_ h13_
         have HO11 := n0_
         have HO21 := n1_
         have HO24 := n2_
         have HO8 := n3_
         have BK1 := n4_
         have BK16 := n5_
         have BK41 := n6_
         have GW41 := n7_
         have GE41 := n8_
         have NB1_41 := n9_
         have NB41_1 := n10_
         have NB16_41 := n11_
         have NB41_16 := n12_
         have HB := n13_
         clear n0_ n1_ n2_ n3_ n4_ n5_ n6_ n7_ n8_ n9_ n10_ n11_ n12_ n13_
         have hHeld : w34.cell? ⟨gb16, 0, none⟩ = some (.int .u32 t4) ∧ w34.cell? ⟨gb16, 1, none⟩ = some (.int .i64 t5) ∧ w34.cell? ⟨gb16, 2, none⟩ = some (.slice Ao28 t6.length co28) ∧ w34.cell? ⟨gb16, 3, none⟩ = some (.slice Ao29 t9.length co29) ∧ w34.cell? ⟨gb16, 4, none⟩ = some (.int .u32 t12) ∧ w34.cell? ⟨gb16, 5, none⟩ = some (.int .u32 t13) ∧ w34.cell? ⟨gb16, 6, none⟩ = some (.int .i64 t14) ∧ w34.cell? ⟨gb16, 7, none⟩ = some (.int .u32 t15) := hS_
         refine norm_ (a' := ?_) ?_ ?_
         rotate_left
         ·
          simp only [putAll, Act.put, List.setIfInBounds_toArray, List.set_cons_zero, List.set_cons_succ]
          rfl
         refine two_ (i := 3) (j := 5) (Ni := some 18) (Nj := some 5) #[true, true, true, true, true, false, false, false] #[true, true, true, false, true, true, false, false] rfl rfl rfl rfl (two_of HT_.out (by kernel_rfl)) (by decide) (by decide) (fun K hK => ?_) (fun K hK => ?_)
         ·
          skip
          refine goes_ Try.func37 (by kernel_rfl) rfl #[.agg #[.int .u32 t4, .int .i64 t5, .slice Ao28 t6.length co28, .slice Ao29 t9.length co29, .int .u32 t12, .int .u32 t13, .int .i64 t14, .int .u32 t15]] (by rfl) rfl rfl (by (try simp only [List.map_toArray, List.map_cons, List.map_nil]); first | done | rfl | (simp only [List.length_drop, List.length_take]; rfl)) ?_
          with_reducible refine (q5z.calls t4 t5 _ _ t6 _ _ t9 t12 t13 t14 t15 t29 t30 t31 t34 t37 t38 t39 t40 _ ?side1 ?side2 ?side3 ?side4 A12.out).mono ?_
          (case side1 => repeat (first | exact (Kd.R_reads' HO8.out).2.2 | (with_reducible refine Kd.C_alloc ?_ _) | (with_reducible refine Kd.C_drewN ?_ _) | (with_reducible refine Kd.C_drew ?_)))
          (case side2 => exact (Kd.R_reads' HO8.out).2.1)
          (case side3 => repeat (first | exact (Kd.R_reads' HO11.out).2.2 | (with_reducible refine Kd.C_alloc ?_ _) | (with_reducible refine Kd.C_drewN ?_ _) | (with_reducible refine Kd.C_drew ?_)))
          (case side4 => exact (Kd.R_reads' HO11.out).2.1)
          rintro e w35 ⟨v32, v35, rfl, ho0, ho1, hb⟩
          refine ⟨_, rfl, ?_⟩
          have HO33 := Aside0.mk (Kd.R_lower (Kd.R_new' (Kd.R_new' (Kd.R_new' (Kd.R_new' ho0 (Kd.R_lt (rW HO8))) (Kd.R_lt (rW HO11))) (Kd.R_lt (rW HO21))) (Kd.R_lt (rW HO24))) (below_size (hbW HB)))
          have HO36 := Aside0.mk (Kd.R_lower (Kd.R_new' (Kd.R_new' (Kd.R_new' (Kd.R_new' ho1 (Kd.R_lt (rW HO8))) (Kd.R_lt (rW HO11))) (Kd.R_lt (rW HO21))) (Kd.R_lt (rW HO24))) (below_size (hbW HB)))
          replace HO8 := Aside0.mk (Kd.R_mono (Kd.R_told (Kd.R_told (Kd.R_old (rW HO8) hb) (Kd.R_base ho0)) (Kd.R_base ho1)) (fun _ h_ => h_.1))
          replace HO11 := Aside0.mk (Kd.R_mono (Kd.R_told (Kd.R_told (Kd.R_old (rW HO11) hb) (Kd.R_base ho0)) (Kd.R_base ho1)) (fun _ h_ => h_.1))
          replace HO21 := Aside0.mk (Kd.R_mono (Kd.R_told (Kd.R_told (Kd.R_old (rW HO21) hb) (Kd.R_base ho0)) (Kd.R_base ho1)) (fun _ h_ => h_.1))
          replace HO24 := Aside0.mk (Kd.R_mono (Kd.R_told (Kd.R_told (Kd.R_old (rW HO24) hb) (Kd.R_base ho0)) (Kd.R_base ho1)) (fun _ h_ => h_.1))
          replace BK1 := bkB BK1 hb
          replace BK16 := bkB BK16 hb
          replace BK41 := bkB BK41 hb
          replace HB := hbS HB hb
          (try clear hb)
          (try clear ho0)
          (try clear ho1)
          refine hK.out _ _ (bl8 BK16) (fun hHeld => ?_)
          clear hK K
          refine norm_ (a' := ?_) ?_ ?_
          rotate_left
          ·
           show Act.put _ (some 18) _ = _
           simp only [Act.put, List.setIfInBounds_toArray, List.set_cons_zero, List.set_cons_succ, i64_w, i32_w, IntKind.wrap_u32]
           rfl
          exact norm_ (by first | (simp only [putAll, Act.put, List.setIfInBounds_toArray, List.set_cons_zero, List.set_cons_succ]; done) | (simp only [putAll, Act.put, List.setIfInBounds_toArray, List.set_cons_zero, List.set_cons_succ]; rfl)) (hJ1_3_4 (v20, v23, v32, v35, gb41) _ ⟨hHeld, (by (with_reducible repeat (first | apply Kd.R_alloc | apply Kd.R_drewN | apply Kd.R_drew)); exact Kd.R_mono HO11.out (fun _ hk => ⟨hk.1.1.1, ⟨hk.1.1.2.1, ⟨hk.1.2, ⟨hk.2, hk.1.1.2.2⟩⟩⟩⟩)), (by (with_reducible repeat (first | apply Kd.R_alloc | apply Kd.R_drewN | apply Kd.R_drew)); exact Kd.R_mono HO21.out (fun _ hk => ⟨hk.1.1.1, ⟨hk.1.1.2.1, ⟨hk.1.2, ⟨hk.2, hk.1.1.2.2⟩⟩⟩⟩)), (by (with_reducible repeat (first | apply Kd.R_alloc | apply Kd.R_drewN | apply Kd.R_drew)); exact Kd.R_mono HO24.out (fun _ hk => ⟨hk.1.1.1, ⟨hk.1.1.2.1, ⟨hk.1.2, ⟨hk.2, hk.1.1.2.2⟩⟩⟩⟩)), (by (with_reducible repeat (first | apply Kd.R_alloc | apply Kd.R_drewN | apply Kd.R_drew)); exact Kd.R_mono HO33.out (fun _ hk => ⟨hk.1.1.2, ⟨hk.1.2, ⟨hk.2, ⟨hk.1.1.1.1, hk.1.1.1.2⟩⟩⟩⟩)), (by (with_reducible repeat (first | apply Kd.R_alloc | apply Kd.R_drewN | apply Kd.R_drew)); exact Kd.R_mono HO36.out (fun _ hk => ⟨hk.1.1.2, ⟨hk.1.2, ⟨hk.2, ⟨hk.1.1.1.1, hk.1.1.1.2⟩⟩⟩⟩)), (by (with_reducible repeat (first | apply Kd.R_alloc | apply Kd.R_drewN | apply Kd.R_drew)); exact Kd.R_mono HO8.out (fun _ hk => ⟨hk.1.1.1, ⟨hk.1.1.2.1, ⟨hk.1.1.2.2, ⟨hk.1.2, hk.2⟩⟩⟩⟩)), (bkW BK1), (bkW BK16), (bkW BK41), GW41.out, GE41.out, NB1_41.out, NB41_1.out, NB16_41.out, NB41_16.out, (hbW HB)⟩)
         ·
          skip
          refine box_step ?hg (N := 5) ?hd (cs := #[.int .u32 0, .int .i64 0, .slice none 0 0, .slice none 0 0, .int .u32 0, .int .u32 0, .int .i64 0, .int .u32 0]) (t := 38) ?hr ?_; (case hd => rfl); (case hg => rfl); (case hr => first | (go_simp; done) | (go_simp; rfl))
          intro gb42 hg w35 hbox hb
          have BK42 := Aside0.mk (hbox)
          have GW42 := gwS hg HB
          have GE42 := gwS hg HB
          have NB1_42 := nbL hg BK1
          have NB42_1 := nbG hg BK1
          have NB16_42 := nbL hg BK16
          have NB42_16 := nbG hg BK16
          have NB41_42 := nbL hg BK41
          have NB42_41 := nbG hg BK41
          replace HO8 := Aside0.mk (Kd.R_below (rW HO8) hb)
          replace HO11 := Aside0.mk (Kd.R_below (rW HO11) hb)
          replace HO21 := Aside0.mk (Kd.R_below (rW HO21) hb)
          replace HO24 := Aside0.mk (Kd.R_below (rW HO24) hb)
          replace BK1 := bkB BK1 hb
          replace BK16 := bkB BK16 hb
          replace BK41 := bkB BK41 hb
          replace HB := hbS HB hb
          clear hb hbox hg
          refine hK.out _ _ (bl8 BK16) (fun hHeld => ?_)
          clear hK K
          refine norm_ (a' := ?_) ?_ ?_
          rotate_left
          ·
           show Act.put _ (some 5) _ = _
           simp only [Act.put, List.setIfInBounds_toArray, List.set_cons_zero, List.set_cons_succ, i64_w, i32_w, IntKind.wrap_u32]
           rfl
          exact norm_ (by first | (simp only [putAll, Act.put, List.setIfInBounds_toArray, List.set_cons_zero, List.set_cons_succ]; done) | (simp only [putAll, Act.put, List.setIfInBounds_toArray, List.set_cons_zero, List.set_cons_succ]; rfl)) (hJ1_4_5 (v20, v23, gb41, gb42) _ ⟨hHeld, (rW HO11), (rW HO21), (rW HO24), (rW HO8), (bkW BK1), (bkW BK16), (bkW BK41), (bkW BK42), GW41.out, GE41.out, NB1_41.out, NB41_1.out, NB16_41.out, NB41_16.out, NB42_41.out, NB41_42.out, GW42.out, GE42.out, NB1_42.out, NB42_1.out, NB16_42.out, NB42_16.out, (hbW HB)⟩)
       ·
        skip
        rintro ⟨v20, v23, v32, v35⟩ w34 ⟨hS_, h0_, h1_, h2_, h3_, h4_, h5_, h6_, h7_, h8_⟩
        have n0_ : Aside0 (Kd.R (Kd.int .u32) 33 w34 w.heap.size (fun k_ => some k_ ≠ (v20 : Value).ownBlock ∧ some k_ ≠ (v23 : Value).ownBlock ∧ some k_ ≠ (v32 : Value).ownBlock ∧ some k_ ≠ (v35 : Value).ownBlock ∧ some k_ ≠ (.slice Ao28 t6.length co28 : Value).ownBlock) (.slice Ao29 t9.length co29) t9) := ⟨h0_⟩
        have n1_ : Aside0 (Kd.R (Kd.int .u32) 33 w34 w.heap.size (fun k_ => some k_ ≠ (.slice Ao29 t9.length co29 : Value).ownBlock ∧ some k_ ≠ (v23 : Value).ownBlock ∧ some k_ ≠ (v32 : Value).ownBlock ∧ some k_ ≠ (v35 : Value).ownBlock ∧ some k_ ≠ (.slice Ao28 t6.length co28 : Value).ownBlock) v20 t19) := ⟨h1_⟩
        have n2_ : Aside0 (Kd.R (Kd.int .u32) 33 w34 w.heap.size (fun k_ => some k_ ≠ (.slice Ao29 t9.length co29 : Value).ownBlock ∧ some k_ ≠ (v20 : Value).ownBlock ∧ some k_ ≠ (v32 : Value).ownBlock ∧ some k_ ≠ (v35 : Value).ownBlock ∧ some k_ ≠ (.slice Ao28 t6.length co28 : Value).ownBlock) v23 t22) := ⟨h2_⟩
        have n3_ : Aside0 (Kd.R (Kd.int .u32) 33 w34 w.heap.size (fun k_ => some k_ ≠ (.slice Ao29 t9.length co29 : Value).ownBlock ∧ some k_ ≠ (v20 : Value).ownBlock ∧ some k_ ≠ (v23 : Value).ownBlock ∧ some k_ ≠ (v35 : Value).ownBlock ∧ some k_ ≠ (.slice Ao28 t6.length co28 : Value).ownBlock) v32 t31) := ⟨h3_⟩
        have n4_ : Aside0 (Kd.R (Kd.int .u32) 33 w34 w.heap.size (fun k_ => some k_ ≠ (.slice Ao29 t9.length co29 : Value).ownBlock ∧ some k_ ≠ (v20 : Value).ownBlock ∧ some k_ ≠ (v23 : Value).ownBlock ∧ some k_ ≠ (v32 : Value).ownBlock ∧ some k_ ≠ (.slice Ao28 t6.length co28 : Value).ownBlock) v35 t34) := ⟨h4_⟩
        have n5_ : Aside0 (Kd.R (Kd.int .u32) 33 w34 w.heap.size (fun k_ => some k_ ≠ (.slice Ao29 t9.length co29 : Value).ownBlock ∧ some k_ ≠ (v20 : Value).ownBlock ∧ some k_ ≠ (v23 : Value).ownBlock ∧ some k_ ≠ (v32 : Value).ownBlock ∧ some k_ ≠ (v35 : Value).ownBlock) (.slice Ao28 t6.length co28) t6) := ⟨h5_⟩
        have n6_ : Aside0 (w34.heap[gb1]? = some (.cells #[.int .u32 a0_0, .int .i64 a0_1, .slice A0_2 l0_2.length c0_2, .slice A0_3 l0_3.length c0_3, .int .u32 a0_4, .int .u32 a0_5, .int .i64 a0_6, .int .u32 a0_7] 38 (0, 0))) := ⟨h6_⟩
        have n7_ : Aside0 (w34.heap[gb16]? = some (.cells #[.int .u32 t4, .int .i64 t5, .slice Ao28 t6.length co28, .slice Ao29 t9.length co29, .int .u32 t12, .int .u32 t13, .int .i64 t14, .int .u32 t15] 38 (0, 0))) := ⟨h7_⟩
        have n8_ : Aside0 (Below w.heap.size w w34) := ⟨h8_⟩
        clear HO8 HO11 BK1 BK16 HB h0_ h1_ h2_ h3_ h4_ h5_ h6_ h7_ h8_
        have HO11 := n0_
        have HO21 := n1_
        have HO24 := n2_
        have HO33 := n3_
        have HO36 := n4_
        have HO8 := n5_
        have BK1 := n6_
        have BK16 := n7_
        have HB := n8_
        clear n0_ n1_ n2_ n3_ n4_ n5_ n6_ n7_ n8_
        have hHeld : w34.cell? ⟨gb16, 0, none⟩ = some (.int .u32 t4) ∧ w34.cell? ⟨gb16, 1, none⟩ = some (.int .i64 t5) ∧ w34.cell? ⟨gb16, 2, none⟩ = some (.slice Ao28 t6.length co28) ∧ w34.cell? ⟨gb16, 3, none⟩ = some (.slice Ao29 t9.length co29) ∧ w34.cell? ⟨gb16, 4, none⟩ = some (.int .u32 t12) ∧ w34.cell? ⟨gb16, 5, none⟩ = some (.int .u32 t13) ∧ w34.cell? ⟨gb16, 6, none⟩ = some (.int .i64 t14) ∧ w34.cell? ⟨gb16, 7, none⟩ = some (.int .u32 t15) := hS_
        refine norm_ (a' := ?_) ?_ ?_
        rotate_left
        ·
         simp only [putAll, Act.put, List.setIfInBounds_toArray, List.set_cons_zero, List.set_cons_succ]
         rfl
        refine two_ (i := 4) (j := 5) (Ni := some 4) (Nj := some 5) #[true, true, true, true, true, false, false, false] #[true, true, true, true, false, true, false, false] rfl rfl rfl rfl (two_of HT_.out (by kernel_rfl)) (by decide) (by decide) (fun K hK => ?_) (fun K hK => ?_)
        ·
         skip
         refine box_step ?hg (N := 4) ?hd (cs := #[.int .u32 0, .int .i64 0, .slice none 0 0, .slice none 0 0, .int .u32 0, .int .u32 0, .int .i64 0, .int .u32 0]) (t := 38) ?hr ?_; (case hd => rfl); (case hg => rfl); (case hr => first | (go_simp; done) | (go_simp; rfl))
         intro gb41 hg w35 hbox hb
         have BK41 := Aside0.mk (hbox)
         have GW41 := gwS hg HB
         have GE41 := gwS hg HB
         have NB1_41 := nbL hg BK1
         have NB41_1 := nbG hg BK1
         have NB16_41 := nbL hg BK16
         have NB41_16 := nbG hg BK16
         replace HO8 := Aside0.mk (Kd.R_below (rW HO8) hb)
         replace HO11 := Aside0.mk (Kd.R_below (rW HO11) hb)
         replace HO21 := Aside0.mk (Kd.R_below (rW HO21) hb)
         replace HO24 := Aside0.mk (Kd.R_below (rW HO24) hb)
         replace HO33 := Aside0.mk (Kd.R_below (rW HO33) hb)
         replace HO36 := Aside0.mk (Kd.R_below (rW HO36) hb)
         replace BK1 := bkB BK1 hb
         replace BK16 := bkB BK16 hb
         replace HB := hbS HB hb
         clear hb hbox hg
         refine hK.out _ _ (bl8 BK16) (fun hHeld => ?_)
         clear hK K
         refine norm_ (a' := ?_) ?_ ?_
         rotate_left
         ·
          show Act.put _ (some 4) _ = _
          simp only [Act.put, List.setIfInBounds_toArray, List.set_cons_zero, List.set_cons_succ, i64_w, i32_w, IntKind.wrap_u32]
          rfl
         exact norm_ (by first | (simp only [putAll, Act.put, List.setIfInBounds_toArray, List.set_cons_zero, List.set_cons_succ]; done) | (simp only [putAll, Act.put, List.setIfInBounds_toArray, List.set_cons_zero, List.set_cons_succ]; rfl)) (hJ1_3_4 (v20, v23, v32, v35, gb41) _ ⟨hHeld, (rW HO11), (rW HO21), (rW HO24), (rW HO33), (rW HO36), (rW HO8), (bkW BK1), (bkW BK16), (bkW BK41), GW41.out, GE41.out, NB1_41.out, NB41_1.out, NB16_41.out, NB41_16.out, (hbW HB)⟩)
        ·
         skip
         refine box_step ?hg (N := 5) ?hd (cs := #[.int .u32 0, .int .i64 0, .slice none 0 0, .slice none 0 0, .int .u32 0, .int .u32 0, .int .i64 0, .int .u32 0]) (t := 38) ?hr ?_; (case hd => rfl); (case hg => rfl); (case hr => first | (go_simp; done) | (go_simp; rfl))
         intro gb42 hg w35 hbox hb
         have BK42 := Aside0.mk (hbox)
         have GW42 := gwS hg HB
         have GE42 := gwS hg HB
         have NB1_42 := nbL hg BK1
         have NB42_1 := nbG hg BK1
         have NB16_42 := nbL hg BK16
         have NB42_16 := nbG hg BK16
         replace HO8 := Aside0.mk (Kd.R_below (rW HO8) hb)
         replace HO11 := Aside0.mk (Kd.R_below (rW HO11) hb)
         replace HO21 := Aside0.mk (Kd.R_below (rW HO21) hb)
         replace HO24 := Aside0.mk (Kd.R_below (rW HO24) hb)
         replace HO33 := Aside0.mk (Kd.R_below (rW HO33) hb)
         replace HO36 := Aside0.mk (Kd.R_below (rW HO36) hb)
         replace BK1 := bkB BK1 hb
         replace BK16 := bkB BK16 hb
         replace HB := hbS HB hb
         clear hb hbox hg
         refine hK.out _ _ (bl8 BK16) (fun hHeld => ?_)
         clear hK K
         refine norm_ (a' := ?_) ?_ ?_
         rotate_left
         ·
          show Act.put _ (some 5) _ = _
          simp only [Act.put, List.setIfInBounds_toArray, List.set_cons_zero, List.set_cons_succ, i64_w, i32_w, IntKind.wrap_u32]
          rfl
         exact norm_ (by first | (simp only [putAll, Act.put, List.setIfInBounds_toArray, List.set_cons_zero, List.set_cons_succ]; done) | (simp only [putAll, Act.put, List.setIfInBounds_toArray, List.set_cons_zero, List.set_cons_succ]; rfl)) (hJ1_3_5 (v20, v23, v32, v35, gb42) _ ⟨hHeld, (rW HO11), (rW HO21), (rW HO24), (rW HO33), (rW HO36), (rW HO8), (bkW BK1), (bkW BK16), (bkW BK42), GW42.out, GE42.out, NB1_42.out, NB42_1.out, NB16_42.out, NB42_16.out, (hbW HB)⟩)
      ·
       skip
       rintro ⟨v20, v23, gb41, gb42⟩ w35 ⟨hS_, h0_, h1_, h2_, h3_, h4_, h5_, h6_, h7_, h8_, h9_, h10_, h11_, h12_, h13_, h14_, h15_, h16_, h17_, h18_, h19_, h20_, h21_, h22_⟩
       have n0_ : Aside0 (Kd.R (Kd.int .u32) 33 w35 w.heap.size (fun k_ => some k_ ≠ (v20 : Value).ownBlock ∧ some k_ ≠ (v23 : Value).ownBlock ∧ some k_ ≠ (.slice Ao28 t6.length co28 : Value).ownBlock) (.slice Ao29 t9.length co29) t9) := ⟨h0_⟩
       have n1_ : Aside0 (Kd.R (Kd.int .u32) 33 w35 w.heap.size (fun k_ => some k_ ≠ (.slice Ao29 t9.length co29 : Value).ownBlock ∧ some k_ ≠ (v23 : Value).ownBlock ∧ some k_ ≠ (.slice Ao28 t6.length co28 : Value).ownBlock) v20 t19) := ⟨h1_⟩
       have n2_ : Aside0 (Kd.R (Kd.int .u32) 33 w35 w.heap.size (fun k_ => some k_ ≠ (.slice Ao29 t9.length co29 : Value).ownBlock ∧ some k_ ≠ (v20 : Value).ownBlock ∧ some k_ ≠ (.slice Ao28 t6.length co28 : Value).ownBlock) v23 t22) := ⟨h2_⟩
       have n3_ : Aside0 (Kd.R (Kd.int .u32) 33 w35 w.heap.size (fun k_ => some k_ ≠ (.slice Ao29 t9.length co29 : Value).ownBlock ∧ some k_ ≠ (v20 : Value).ownBlock ∧ some k_ ≠ (v23 : Value).ownBlock) (.slice Ao28 t6.length co28) t6) := ⟨h3_⟩
       have n4_ : Aside0 (w35.heap[gb1]? = some (.cells #[.int .u32 a0_0, .int .i64 a0_1, .slice A0_2 l0_2.length c0_2, .slice A0_3 l0_3.length c0_3, .int .u32 a0_4, .int .u32 a0_5, .int .i64 a0_6, .int .u32 a0_7] 38 (0, 0))) := ⟨h4_⟩
       have n5_ : Aside0 (w35.heap[gb16]? = some (.cells #[.int .u32 t4, .int .i64 t5, .slice Ao28 t6.length co28, .slice Ao29 t9.length co29, .int .u32 t12, .int .u32 t13, .int .i64 t14, .int .u32 t15] 38 (0, 0))) := ⟨h5_⟩
       have n6_ : Aside0 (w35.heap[gb41]? = some (.cells #[.int .u32 0, .int .i64 0, .slice none 0 0, .slice none 0 0, .int .u32 0, .int .u32 0, .int .i64 0, .int .u32 0] 38 (0, 0))) := ⟨h6_⟩
       have n7_ : Aside0 (w35.heap[gb42]? = some (.cells #[.int .u32 0, .int .i64 0, .slice none 0 0, .slice none 0 0, .int .u32 0, .int .u32 0, .int .i64 0, .int .u32 0] 38 (0, 0))) := ⟨h7_⟩
       have n8_ : Aside0 (w.heap.size ≤ gb41) := ⟨h8_⟩
       have n9_ : Aside0 (w.heap.size ≤ gb41) := ⟨h9_⟩
       have n10_ : Aside0 (gb1 ≠ gb41) := ⟨h10_⟩
       have n11_ : Aside0 (gb41 ≠ gb1) := ⟨h11_⟩
       have n12_ : Aside0 (gb16 ≠ gb41) := ⟨h12_⟩
       have n13_ : Aside0 (gb41 ≠ gb16) := ⟨h13_⟩
       have n14_ : Aside0 (gb42 ≠ gb41) := ⟨h14_⟩
       have n15_ : Aside0 (gb41 ≠ gb42) := ⟨h15_⟩
       have n16_ : Aside0 (w.heap.size ≤ gb42) := ⟨h16_⟩
       have n17_ : Aside0 (w.heap.size ≤ gb42) := ⟨h17_⟩
       have n18_ : Aside0 (gb1 ≠ gb42) := ⟨h18_⟩
       have n19_ : Aside0 (gb42 ≠ gb1) := ⟨h19_⟩
       have n20_ : Aside0 (gb16 ≠ gb42) := ⟨h20_⟩
       have n21_ : Aside0 (gb42 ≠ gb16) := ⟨h21_⟩
       have n22_ : Aside0 (Below w.heap.size w w35) := ⟨h22_⟩
       clear HO8 HO11 BK1 BK16 HB h0_ h1_ h2_ h3_ h4_ h5_ h6_ h7_ h8_ h9_ h10_ h11_ h12_ h13_ h14_ h15_ h16_ h17_ h18_ h19_ h20_ h21_ h22_
       have HO11 := n0_
       have HO21 := n1_
       have HO24 := n2_
       have HO8 := n3_
       have BK1 := n4_
       have BK16 := n5_
       have BK41 := n6_
       have BK42 := n7_
       have GW41 := n8_
       have GE41 := n9_
       have NB1_41 := n10_
       have NB41_1 := n11_
       have NB16_41 := n12_
       have NB41_16 := n13_
       have NB42_41 := n14_
       have NB41_42 := n15_
       have GW42 := n16_
       have GE42 := n17_
       have NB1_42 := n18_
       have NB42_1 := n19_
       have NB16_42 := n20_
       have NB42_16 := n21_
       have HB := n22_
       clear n0_ n1_ n2_ n3_ n4_ n5_ n6_ n7_ n8_ n9_ n10_ n11_ n12_ n13_ n14_ n15_ n16_ n17_ n18_ n19_ n20_ n21_ n22_
       have hHeld : w35.cell? ⟨gb16, 0, none⟩ = some (.int .u32 t4) ∧ w35.cell? ⟨gb16, 1, none⟩ = some (.int .i64 t5) ∧ w35.cell? ⟨gb16, 2, none⟩ = some (.slice Ao28 t6.length co28) ∧ w35.cell? ⟨gb16, 3, none⟩ = some (.slice Ao29 t9.length co29) ∧ w35.cell? ⟨gb16, 4, none⟩ = some (.int .u32 t12) ∧ w35.cell? ⟨gb16, 5, none⟩ = some (.int .u32 t13) ∧ w35.cell? ⟨gb16, 6, none⟩ = some (.int .i64 t14) ∧ w35.cell? ⟨gb16, 7, none⟩ = some (.int .u32 t15) := hS_
       refine norm_ (a' := ?_) ?_ ?_
       rotate_left
       ·
        simp only [putAll, Act.put, List.setIfInBounds_toArray, List.set_cons_zero, List.set_cons_succ]
        rfl
       refine one_ (i := 3) (N := some 18) #[true, true, true, true, true, true, false, false] rfl rfl (one_of HT_.out (by kernel_rfl)) (by decide) (fun K hK => ?_)
       refine goes_ Try.func37 (by kernel_rfl) rfl #[.agg #[.int .u32 t4, .int .i64 t5, .slice Ao28 t6.length co28, .slice Ao29 t9.length co29, .int .u32 t12, .int .u32 t13, .int .i64 t14, .int .u32 t15]] (by rfl) rfl rfl (by (try simp only [List.map_toArray, List.map_cons, List.map_nil]); first | done | rfl | (simp only [List.length_drop, List.length_take]; rfl)) ?_
       with_reducible refine (q5z.calls t4 t5 _ _ t6 _ _ t9 t12 t13 t14 t15 t29 t30 t31 t34 t37 t38 t39 t40 _ ?side1 ?side2 ?side3 ?side4 A12.out).mono ?_
       (case side1 => repeat (first | exact (Kd.R_reads' HO8.out).2.2 | (with_reducible refine Kd.C_alloc ?_ _) | (with_reducible refine Kd.C_drewN ?_ _) | (with_reducible refine Kd.C_drew ?_)))
       (case side2 => exact (Kd.R_reads' HO8.out).2.1)
       (case side3 => repeat (first | exact (Kd.R_reads' HO11.out).2.2 | (with_reducible refine Kd.C_alloc ?_ _) | (with_reducible refine Kd.C_drewN ?_ _) | (with_reducible refine Kd.C_drew ?_)))
       (case side4 => exact (Kd.R_reads' HO11.out).2.1)
       rintro e w36 ⟨v32, v35, rfl, ho0, ho1, hb⟩
       refine ⟨_, rfl, ?_⟩
       have HO33 := Aside0.mk (Kd.R_lower (Kd.R_new' (Kd.R_new' (Kd.R_new' (Kd.R_new' ho0 (Kd.R_lt (rW HO8))) (Kd.R_lt (rW HO11))) (Kd.R_lt (rW HO21))) (Kd.R_lt (rW HO24))) (below_size (hbW HB)))
       have HO36 := Aside0.mk (Kd.R_lower (Kd.R_new' (Kd.R_new' (Kd.R_new' (Kd.R_new' ho1 (Kd.R_lt (rW HO8))) (Kd.R_lt (rW HO11))) (Kd.R_lt (rW HO21))) (Kd.R_lt (rW HO24))) (below_size (hbW HB)))
       replace HO8 := Aside0.mk (Kd.R_mono (Kd.R_told (Kd.R_told (Kd.R_old (rW HO8) hb) (Kd.R_base ho0)) (Kd.R_base ho1)) (fun _ h_ => h_.1))
       replace HO11 := Aside0.mk (Kd.R_mono (Kd.R_told (Kd.R_told (Kd.R_old (rW HO11) hb) (Kd.R_base ho0)) (Kd.R_base ho1)) (fun _ h_ => h_.1))
       replace HO21 := Aside0.mk (Kd.R_mono (Kd.R_told (Kd.R_told (Kd.R_old (rW HO21) hb) (Kd.R_base ho0)) (Kd.R_base ho1)) (fun _ h_ => h_.1))
       replace HO24 := Aside0.mk (Kd.R_mono (Kd.R_told (Kd.R_told (Kd.R_old (rW HO24) hb) (Kd.R_base ho0)) (Kd.R_base ho1)) (fun _ h_ => h_.1))
       replace BK1 := bkB BK1 hb
       replace BK16 := bkB BK16 hb
       replace BK41 := bkB BK41 hb
       replace BK42 := bkB BK42 hb
       replace HB := hbS HB hb
       (try clear hb)
       (try clear ho0)
       (try clear ho1)
       refine hK.out _ _ (bl8 BK16) (fun hHeld => ?_)
       clear hK K
       refine norm_ (a' := ?_) ?_ ?_
       rotate_left
       ·
        show Act.put _ (some 18) _ = _
        simp only [Act.put, List.setIfInBounds_toArray, List.set_cons_zero, List.set_cons_succ, i64_w, i32_w, IntKind.wrap_u32]
        rfl
       exact norm_ (by first | (simp only [putAll, Act.put, List.setIfInBounds_toArray, List.set_cons_zero, List.set_cons_succ]; done) | (simp only [putAll, Act.put, List.setIfInBounds_toArray, List.set_cons_zero, List.set_cons_succ]; rfl)) (hJ1_3_4_5 (v20, v23, v32, v35, gb41, gb42) _ ⟨hHeld, (by (with_reducible repeat (first | apply Kd.R_alloc | apply Kd.R_drewN | apply Kd.R_drew)); exact Kd.R_mono HO11.out (fun _ hk => ⟨hk.1.1.1, ⟨hk.1.1.2.1, ⟨hk.1.2, ⟨hk.2, hk.1.1.2.2⟩⟩⟩⟩)), (by (with_reducible repeat (first | apply Kd.R_alloc | apply Kd.R_drewN | apply Kd.R_drew)); exact Kd.R_mono HO21.out (fun _ hk => ⟨hk.1.1.1, ⟨hk.1.1.2.1, ⟨hk.1.2, ⟨hk.2, hk.1.1.2.2⟩⟩⟩⟩)), (by (with_reducible repeat (first | apply Kd.R_alloc | apply Kd.R_drewN | apply Kd.R_drew)); exact Kd.R_mono HO24.out (fun _ hk => ⟨hk.1.1.1, ⟨hk.1.1.2.1, ⟨hk.1.2, ⟨hk.2, hk.1.1.2.2⟩⟩⟩⟩)), (by (with_reducible repeat (first | apply Kd.R_alloc | apply Kd.R_drewN | apply Kd.R_drew)); exact Kd.R_mono HO33.out (fun _ hk => ⟨hk.1.1.2, ⟨hk.1.2, ⟨hk.2, ⟨hk.1.1.1.1, hk.1.1.1.2⟩⟩⟩⟩)), (by (with_reducible repeat (first | apply Kd.R_alloc | apply Kd.R_drewN | apply Kd.R_drew)); exact Kd.R_mono HO36.out (fun _ hk => ⟨hk.1.1.2, ⟨hk.1.2, ⟨hk.2, ⟨hk.1.1.1.1, hk.1.1.1.2⟩⟩⟩⟩)), (by (with_reducible repeat (first | apply Kd.R_alloc | apply Kd.R_drewN | apply Kd.R_drew)); exact Kd.R_mono HO8.out (fun _ hk => ⟨hk.1.1.1, ⟨hk.1.1.2.1, ⟨hk.1.1.2.2, ⟨hk.1.2, hk.2⟩⟩⟩⟩)), (bkW BK1), (bkW BK16), (bkW BK41), (bkW BK42), GW41.out, GE41.out, NB1_41.out, NB41_1.out, NB16_41.out, NB41_16.out, NB42_41.out, NB41_42.out, GW42.out, GE42.out, NB1_42.out, NB42_1.out, NB16_42.out, NB42_16.out, (hbW HB)⟩)
     ·
      skip
      rintro ⟨v20, v23, v32, v35, gb42⟩ w35 ⟨hS_, h0_, h1_, h2_, h3_, h4_, h5_, h6_, h7_, h8_, h9_, h10_, h11_, h12_, h13_, h14_, h15_⟩
      have n0_ : Aside0 (Kd.R (Kd.int .u32) 33 w35 w.heap.size (fun k_ => some k_ ≠ (v20 : Value).ownBlock ∧ some k_ ≠ (v23 : Value).ownBlock ∧ some k_ ≠ (v32 : Value).ownBlock ∧ some k_ ≠ (v35 : Value).ownBlock ∧ some k_ ≠ (.slice Ao28 t6.length co28 : Value).ownBlock) (.slice Ao29 t9.length co29) t9) := ⟨h0_⟩
      have n1_ : Aside0 (Kd.R (Kd.int .u32) 33 w35 w.heap.size (fun k_ => some k_ ≠ (.slice Ao29 t9.length co29 : Value).ownBlock ∧ some k_ ≠ (v23 : Value).ownBlock ∧ some k_ ≠ (v32 : Value).ownBlock ∧ some k_ ≠ (v35 : Value).ownBlock ∧ some k_ ≠ (.slice Ao28 t6.length co28 : Value).ownBlock) v20 t19) := ⟨h1_⟩
      have n2_ : Aside0 (Kd.R (Kd.int .u32) 33 w35 w.heap.size (fun k_ => some k_ ≠ (.slice Ao29 t9.length co29 : Value).ownBlock ∧ some k_ ≠ (v20 : Value).ownBlock ∧ some k_ ≠ (v32 : Value).ownBlock ∧ some k_ ≠ (v35 : Value).ownBlock ∧ some k_ ≠ (.slice Ao28 t6.length co28 : Value).ownBlock) v23 t22) := ⟨h2_⟩
      have n3_ : Aside0 (Kd.R (Kd.int .u32) 33 w35 w.heap.size (fun k_ => some k_ ≠ (.slice Ao29 t9.length co29 : Value).ownBlock ∧ some k_ ≠ (v20 : Value).ownBlock ∧ some k_ ≠ (v23 : Value).ownBlock ∧ some k_ ≠ (v35 : Value).ownBlock ∧ some k_ ≠ (.slice Ao28 t6.length co28 : Value).ownBlock) v32 t31) := ⟨h3_⟩
      have n4_ : Aside0 (Kd.R (Kd.int .u32) 33 w35 w.heap.size (fun k_ => some k_ ≠ (.slice Ao29 t9.length co29 : Value).ownBlock ∧ some k_ ≠ (v20 : Value).ownBlock ∧ some k_ ≠ (v23 : Value).ownBlock ∧ some k_ ≠ (v32 : Value).ownBlock ∧ some k_ ≠ (.slice Ao28 t6.length co28 : Value).ownBlock) v35 t34) := ⟨h4_⟩
      have n5_ : Aside0 (Kd.R (Kd.int .u32) 33 w35 w.heap.size (fun k_ => some k_ ≠ (.slice Ao29 t9.length co29 : Value).ownBlock ∧ some k_ ≠ (v20 : Value).ownBlock ∧ some k_ ≠ (v23 : Value).ownBlock ∧ some k_ ≠ (v32 : Value).ownBlock ∧ some k_ ≠ (v35 : Value).ownBlock) (.slice Ao28 t6.length co28) t6) := ⟨h5_⟩
      have n6_ : Aside0 (w35.heap[gb1]? = some (.cells #[.int .u32 a0_0, .int .i64 a0_1, .slice A0_2 l0_2.length c0_2, .slice A0_3 l0_3.length c0_3, .int .u32 a0_4, .int .u32 a0_5, .int .i64 a0_6, .int .u32 a0_7] 38 (0, 0))) := ⟨h6_⟩
      have n7_ : Aside0 (w35.heap[gb16]? = some (.cells #[.int .u32 t4, .int .i64 t5, .slice Ao28 t6.length co28, .slice Ao29 t9.length co29, .int .u32 t12, .int .u32 t13, .int .i64 t14, .int .u32 t15] 38 (0, 0))) := ⟨h7_⟩
      have n8_ : Aside0 (w35.heap[gb42]? = some (.cells #[.int .u32 0, .int .i64 0, .slice none 0 0, .slice none 0 0, .int .u32 0, .int .u32 0, .int .i64 0, .int .u32 0] 38 (0, 0))) := ⟨h8_⟩
      have n9_ : Aside0 (w.heap.size ≤ gb42) := ⟨h9_⟩
      have n10_ : Aside0 (w.heap.size ≤ gb42) := ⟨h10_⟩
      have n11_ : Aside0 (gb1 ≠ gb42) := ⟨h11_⟩
      have n12_ : Aside0 (gb42 ≠ gb1) := ⟨h12_⟩
      have n13_ : Aside0 (gb16 ≠ gb42) := ⟨h13_⟩
      have n14_ : Aside0 (gb42 ≠ gb16) := ⟨h14_⟩
      have n15_ : Aside0 (Below w.heap.size w w35) := ⟨h15_⟩
      clear HO8 HO11 BK1 BK16 HB h0_ h1_ h2_ h3_ h4_ h5_ h6_ h7_ h8_ h9_ h10_ h11_ h12_ h13_ h14_ h15_
      have HO11 := n0_
      have HO21 := n1_
      have HO24 := n2_
      have HO33 := n3_
      have HO36 := n4_
      have HO8 := n5_
      have BK1 := n6_
      have BK16 := n7_
      have BK42 := n8_
      have GW42 := n9_
      have GE42 := n10_
      have NB1_42 := n11_
      have NB42_1 := n12_
      have NB16_42 := n13_
      have NB42_16 := n14_
      have HB := n15_
      clear n0_ n1_ n2_ n3_ n4_ n5_ n6_ n7_ n8_ n9_ n10_ n11_ n12_ n13_ n14_ n15_
      have hHeld : w35.cell? ⟨gb16, 0, none⟩ = some (.int .u32 t4) ∧ w35.cell? ⟨gb16, 1, none⟩ = some (.int .i64 t5) ∧ w35.cell? ⟨gb16, 2, none⟩ = some (.slice Ao28 t6.length co28) ∧ w35.cell? ⟨gb16, 3, none⟩ = some (.slice Ao29 t9.length co29) ∧ w35.cell? ⟨gb16, 4, none⟩ = some (.int .u32 t12) ∧ w35.cell? ⟨gb16, 5, none⟩ = some (.int .u32 t13) ∧ w35.cell? ⟨gb16, 6, none⟩ = some (.int .i64 t14) ∧ w35.cell? ⟨gb16, 7, none⟩ = some (.int .u32 t15) := hS_
      refine norm_ (a' := ?_) ?_ ?_
      rotate_left
      ·
       simp only [putAll, Act.put, List.setIfInBounds_toArray, List.set_cons_zero, List.set_cons_succ]
       rfl
      refine one_ (i := 4) (N := some 4) #[true, true, true, true, true, true, false, false] rfl rfl (one_of HT_.out (by kernel_rfl)) (by decide) (fun K hK => ?_)
      refine box_step ?hg (N := 4) ?hd (cs := #[.int .u32 0, .int .i64 0, .slice none 0 0, .slice none 0 0, .int .u32 0, .int .u32 0, .int .i64 0, .int .u32 0]) (t := 38) ?hr ?_; (case hd => rfl); (case hg => rfl); (case hr => first | (go_simp; done) | (go_simp; rfl))
      intro gb41 hg w36 hbox hb
      have BK41 := Aside0.mk (hbox)
      have GW41 := gwS hg HB
      have GE41 := gwS hg HB
      have NB1_41 := nbL hg BK1
      have NB41_1 := nbG hg BK1
      have NB16_41 := nbL hg BK16
      have NB41_16 := nbG hg BK16
      have NB42_41 := nbL hg BK42
      have NB41_42 := nbG hg BK42
      replace HO8 := Aside0.mk (Kd.R_below (rW HO8) hb)
      replace HO11 := Aside0.mk (Kd.R_below (rW HO11) hb)
      replace HO21 := Aside0.mk (Kd.R_below (rW HO21) hb)
      replace HO24 := Aside0.mk (Kd.R_below (rW HO24) hb)
      replace HO33 := Aside0.mk (Kd.R_below (rW HO33) hb)
      replace HO36 := Aside0.mk (Kd.R_below (rW HO36) hb)
      replace BK1 := bkB BK1 hb
      replace BK16 := bkB BK16 hb
      replace BK42 := bkB BK42 hb
      replace HB := hbS HB hb
      clear hb hbox hg
      refine hK.out _ _ (bl8 BK16) (fun hHeld => ?_)
      clear hK K
      refine norm_ (a' := ?_) ?_ ?_
      rotate_left
      ·
       show Act.put _ (some 4) _ = _
       simp only [Act.put, List.setIfInBounds_toArray, List.set_cons_zero, List.set_cons_succ, i64_w, i32_w, IntKind.wrap_u32]
       rfl
      exact norm_ (by first | (simp only [putAll, Act.put, List.setIfInBounds_toArray, List.set_cons_zero, List.set_cons_succ]; done) | (simp only [putAll, Act.put, List.setIfInBounds_toArray, List.set_cons_zero, List.set_cons_succ]; rfl)) (hJ1_3_4_5 (v20, v23, v32, v35, gb41, gb42) _ ⟨hHeld, (rW HO11), (rW HO21), (rW HO24), (rW HO33), (rW HO36), (rW HO8), (bkW BK1), (bkW BK16), (bkW BK41), (bkW BK42), GW41.out, GE41.out, NB1_41.out, NB41_1.out, NB16_41.out, NB41_16.out, NB42_41.out, NB41_42.out, GW42.out, GE42.out, NB1_42.out, NB42_1.out, NB16_42.out, NB42_16.out, (hbW HB)⟩)
    ·
     skip
     rintro ⟨v20, v23, v32, v35, gb41⟩ w35 ⟨hS_, h0_, h1_, h2_, h3_, h4_, h5_, h6_, h7_, h8_, h9_, h10_, h11_, h12_, h13_, h14_, h15_⟩
     have n0_ : Aside0 (Kd.R (Kd.int .u32) 33 w35 w.heap.size (fun k_ => some k_ ≠ (v20 : Value).ownBlock ∧ some k_ ≠ (v23 : Value).ownBlock ∧ some k_ ≠ (v32 : Value).ownBlock ∧ some k_ ≠ (v35 : Value).ownBlock ∧ some k_ ≠ (.slice Ao28 t6.length co28 : Value).ownBlock) (.slice Ao29 t9.length co29) t9) := ⟨h0_⟩
     have n1_ : Aside0 (Kd.R (Kd.int .u32) 33 w35 w.heap.size (fun k_ => some k_ ≠ (.slice Ao29 t9.length co29 : Value).ownBlock ∧ some k_ ≠ (v23 : Value).ownBlock ∧ some k_ ≠ (v32 : Value).ownBlock ∧ some k_ ≠ (v35 : Value).ownBlock ∧ some k_ ≠ (.slice Ao28 t6.length co28 : Value).ownBlock) v20 t19) := ⟨h1_⟩
     have n2_ : Aside0 (Kd.R (Kd.int .u32) 33 w35 w.heap.size (fun k_ => some k_ ≠ (.slice Ao29 t9.length co29 : Value).ownBlock ∧ some k_ ≠ (v20 : Value).ownBlock ∧ some k_ ≠ (v32 : Value).ownBlock ∧ some k_ ≠ (v35 : Value).ownBlock ∧ some k_ ≠ (.slice Ao28 t6.length co28 : Value).ownBlock) v23 t22) := ⟨h2_⟩
     have n3_ : Aside0 (Kd.R (Kd.int .u32) 33 w35 w.heap.size (fun k_ => some k_ ≠ (.slice Ao29 t9.length co29 : Value).ownBlock ∧ some k_ ≠ (v20 : Value).ownBlock ∧ some k_ ≠ (v23 : Value).ownBlock ∧ some k_ ≠ (v35 : Value).ownBlock ∧ some k_ ≠ (.slice Ao28 t6.length co28 : Value).ownBlock) v32 t31) := ⟨h3_⟩
     have n4_ : Aside0 (Kd.R (Kd.int .u32) 33 w35 w.heap.size (fun k_ => some k_ ≠ (.slice Ao29 t9.length co29 : Value).ownBlock ∧ some k_ ≠ (v20 : Value).ownBlock ∧ some k_ ≠ (v23 : Value).ownBlock ∧ some k_ ≠ (v32 : Value).ownBlock ∧ some k_ ≠ (.slice Ao28 t6.length co28 : Value).ownBlock) v35 t34) := ⟨h4_⟩
     have n5_ : Aside0 (Kd.R (Kd.int .u32) 33 w35 w.heap.size (fun k_ => some k_ ≠ (.slice Ao29 t9.length co29 : Value).ownBlock ∧ some k_ ≠ (v20 : Value).ownBlock ∧ some k_ ≠ (v23 : Value).ownBlock ∧ some k_ ≠ (v32 : Value).ownBlock ∧ some k_ ≠ (v35 : Value).ownBlock) (.slice Ao28 t6.length co28) t6) := ⟨h5_⟩
     have n6_ : Aside0 (w35.heap[gb1]? = some (.cells #[.int .u32 a0_0, .int .i64 a0_1, .slice A0_2 l0_2.length c0_2, .slice A0_3 l0_3.length c0_3, .int .u32 a0_4, .int .u32 a0_5, .int .i64 a0_6, .int .u32 a0_7] 38 (0, 0))) := ⟨h6_⟩
     have n7_ : Aside0 (w35.heap[gb16]? = some (.cells #[.int .u32 t4, .int .i64 t5, .slice Ao28 t6.length co28, .slice Ao29 t9.length co29, .int .u32 t12, .int .u32 t13, .int .i64 t14, .int .u32 t15] 38 (0, 0))) := ⟨h7_⟩
     have n8_ : Aside0 (w35.heap[gb41]? = some (.cells #[.int .u32 0, .int .i64 0, .slice none 0 0, .slice none 0 0, .int .u32 0, .int .u32 0, .int .i64 0, .int .u32 0] 38 (0, 0))) := ⟨h8_⟩
     have n9_ : Aside0 (w.heap.size ≤ gb41) := ⟨h9_⟩
     have n10_ : Aside0 (w.heap.size ≤ gb41) := ⟨h10_⟩
     have n11_ : Aside0 (gb1 ≠ gb41) := ⟨h11_⟩
     have n12_ : Aside0 (gb41 ≠ gb1) := ⟨h12_⟩
     have n13_ : Aside0 (gb16 ≠ gb41) := ⟨h13_⟩
     have n14_ : Aside0 (gb41 ≠ gb16) := ⟨h14_⟩
     have n15_ : Aside0 (Below w.heap.size w w35) := ⟨h15_⟩
     clear HO8 HO11 BK1 BK16 HB h0_ h1_ h2_ h3_ h4_ h5_ h6_ h7_ h8_ h9_ h10_ h11_ h12_ h13_ h14_ h15_
     have HO11 := n0_
     have HO21 := n1_
     have HO24 := n2_
     have HO33 := n3_
     have HO36 := n4_
     have HO8 := n5_
     have BK1 := n6_
     have BK16 := n7_
     have BK41 := n8_
     have GW41 := n9_
     have GE41 := n10_
     have NB1_41 := n11_
     have NB41_1 := n12_
     have NB16_41 := n13_
     have NB41_16 := n14_
     have HB := n15_
     clear n0_ n1_ n2_ n3_ n4_ n5_ n6_ n7_ n8_ n9_ n10_ n11_ n12_ n13_ n14_ n15_
     have hHeld : w35.cell? ⟨gb16, 0, none⟩ = some (.int .u32 t4) ∧ w35.cell? ⟨gb16, 1, none⟩ = some (.int .i64 t5) ∧ w35.cell? ⟨gb16, 2, none⟩ = some (.slice Ao28 t6.length co28) ∧ w35.cell? ⟨gb16, 3, none⟩ = some (.slice Ao29 t9.length co29) ∧ w35.cell? ⟨gb16, 4, none⟩ = some (.int .u32 t12) ∧ w35.cell? ⟨gb16, 5, none⟩ = some (.int .u32 t13) ∧ w35.cell? ⟨gb16, 6, none⟩ = some (.int .i64 t14) ∧ w35.cell? ⟨gb16, 7, none⟩ = some (.int .u32 t15) := hS_
     refine norm_ (a' := ?_) ?_ ?_
     rotate_left
     ·
      simp only [putAll, Act.put, List.setIfInBounds_toArray, List.set_cons_zero, List.set_cons_succ]
      rfl
     refine one_ (i := 5) (N := some 5) #[true, true, true, true, true, true, false, false] rfl rfl (one_of HT_.out (by kernel_rfl)) (by decide) (fun K hK => ?_)
     refine box_step ?hg (N := 5) ?hd (cs := #[.int .u32 0, .int .i64 0, .slice none 0 0, .slice none 0 0, .int .u32 0, .int .u32 0, .int .i64 0, .int .u32 0]) (t := 38) ?hr ?_; (case hd => rfl); (case hg => rfl); (case hr => first | (go_simp; done) | (go_simp; rfl))
     intro gb42 hg w36 hbox hb
     have BK42 := Aside0.mk (hbox)
     have GW42 := gwS hg HB
     have GE42 := gwS hg HB
     have NB1_42 := nbL hg BK1
     have NB42_1 := nbG hg BK1
     have NB16_42 := nbL hg BK16
     have NB42_16 := nbG hg BK16
     have NB41_42 := nbL hg BK41
     have NB42_41 := nbG hg BK41
     replace HO8 := Aside0.mk (Kd.R_below (rW HO8) hb)
     replace HO11 := Aside0.mk (Kd.R_below (rW HO11) hb)
     replace HO21 := Aside0.mk (Kd.R_below (rW HO21) hb)
     replace HO24 := Aside0.mk (Kd.R_below (rW HO24) hb)
     replace HO33 := Aside0.mk (Kd.R_below (rW HO33) hb)
     replace HO36 := Aside0.mk (Kd.R_below (rW HO36) hb)
     replace BK1 := bkB BK1 hb
     replace BK16 := bkB BK16 hb
     replace BK41 := bkB BK41 hb
     replace HB := hbS HB hb
     clear hb hbox hg
     refine hK.out _ _ (bl8 BK16) (fun hHeld => ?_)
     clear hK K
     refine norm_ (a' := ?_) ?_ ?_
     rotate_left
     ·
      show Act.put _ (some 5) _ = _
      simp only [Act.put, List.setIfInBounds_toArray, List.set_cons_zero, List.set_cons_succ, i64_w, i32_w, IntKind.wrap_u32]
      rfl
     exact norm_ (by first | (simp only [putAll, Act.put, List.setIfInBounds_toArray, List.set_cons_zero, List.set_cons_succ]; done) | (simp only [putAll, Act.put, List.setIfInBounds_toArray, List.set_cons_zero, List.set_cons_succ]; rfl)) (hJ1_3_4_5 (v20, v23, v32, v35, gb41, gb42) _ ⟨hHeld, (rW HO11), (rW HO21), (rW HO24), (rW HO33), (rW HO36), (rW HO8), (bkW BK1), (bkW BK16), (bkW BK41), (bkW BK42), GW41.out, GE41.out, NB1_41.out, NB41_1.out, NB16_41.out, NB41_16.out, NB42_41.out, NB41_42.out, GW42.out, GE42.out, NB1_42.out, NB42_1.out, NB16_42.out, NB42_16.out, (hbW HB)⟩)
   rintro ⟨v20, v23, v32, v35, gb41, gb42⟩ w36 ⟨hS_, h0_, h1_, h2_, h3_, h4_, h5_, h6_, h7_, h8_, h9_, h10_, h11_, h12_, h13_, h14_, h15_, h16_, h17_, h18_, h19_, h20_, h21_, h22_, h23_, h24_⟩
   have n0_ : Aside0 (Kd.R (Kd.int .u32) 33 w36 w.heap.size (fun k_ => some k_ ≠ (v20 : Value).ownBlock ∧ some k_ ≠ (v23 : Value).ownBlock ∧ some k_ ≠ (v32 : Value).ownBlock ∧ some k_ ≠ (v35 : Value).ownBlock ∧ some k_ ≠ (.slice Ao28 t6.length co28 : Value).ownBlock) (.slice Ao29 t9.length co29) t9) := ⟨h0_⟩
   have n1_ : Aside0 (Kd.R (Kd.int .u32) 33 w36 w.heap.size (fun k_ => some k_ ≠ (.slice Ao29 t9.length co29 : Value).ownBlock ∧ some k_ ≠ (v23 : Value).ownBlock ∧ some k_ ≠ (v32 : Value).ownBlock ∧ some k_ ≠ (v35 : Value).ownBlock ∧ some k_ ≠ (.slice Ao28 t6.length co28 : Value).ownBlock) v20 t19) := ⟨h1_⟩
   have n2_ : Aside0 (Kd.R (Kd.int .u32) 33 w36 w.heap.size (fun k_ => some k_ ≠ (.slice Ao29 t9.length co29 : Value).ownBlock ∧ some k_ ≠ (v20 : Value).ownBlock ∧ some k_ ≠ (v32 : Value).ownBlock ∧ some k_ ≠ (v35 : Value).ownBlock ∧ some k_ ≠ (.slice Ao28 t6.length co28 : Value).ownBlock) v23 t22) := ⟨h2_⟩
   have n3_ : Aside0 (Kd.R (Kd.int .u32) 33 w36 w.heap.size (fun k_ => some k_ ≠ (.slice Ao29 t9.length co29 : Value).ownBlock ∧ some k_ ≠ (v20 : Value).ownBlock ∧ some k_ ≠ (v23 : Value).ownBlock ∧ some k_ ≠ (v35 : Value).ownBlock ∧ some k_ ≠ (.slice Ao28 t6.length co28 : Value).ownBlock) v32 t31) := ⟨h3_⟩
   have n4_ : Aside0 (Kd.R (Kd.int .u32) 33 w36 w.heap.size (fun k_ => some k_ ≠ (.slice Ao29 t9.length co29 : Value).ownBlock ∧ some k_ ≠ (v20 : Value).ownBlock ∧ some k_ ≠ (v23 : Value).ownBlock ∧ some k_ ≠ (v32 : Value).ownBlock ∧ some k_ ≠ (.slice Ao28 t6.length co28 : Value).ownBlock) v35 t34) := ⟨h4_⟩
   have n5_ : Aside0 (Kd.R (Kd.int .u32) 33 w36 w.heap.size (fun k_ => some k_ ≠ (.slice Ao29 t9.length co29 : Value).ownBlock ∧ some k_ ≠ (v20 : Value).ownBlock ∧ some k_ ≠ (v23 : Value).ownBlock ∧ some k_ ≠ (v32 : Value).ownBlock ∧ some k_ ≠ (v35 : Value).ownBlock) (.slice Ao28 t6.length co28) t6) := ⟨h5_⟩
   have n6_ : Aside0 (w36.heap[gb1]? = some (.cells #[.int .u32 a0_0, .int .i64 a0_1, .slice A0_2 l0_2.length c0_2, .slice A0_3 l0_3.length c0_3, .int .u32 a0_4, .int .u32 a0_5, .int .i64 a0_6, .int .u32 a0_7] 38 (0, 0))) := ⟨h6_⟩
   have n7_ : Aside0 (w36.heap[gb16]? = some (.cells #[.int .u32 t4, .int .i64 t5, .slice Ao28 t6.length co28, .slice Ao29 t9.length co29, .int .u32 t12, .int .u32 t13, .int .i64 t14, .int .u32 t15] 38 (0, 0))) := ⟨h7_⟩
   have n8_ : Aside0 (w36.heap[gb41]? = some (.cells #[.int .u32 0, .int .i64 0, .slice none 0 0, .slice none 0 0, .int .u32 0, .int .u32 0, .int .i64 0, .int .u32 0] 38 (0, 0))) := ⟨h8_⟩
   have n9_ : Aside0 (w36.heap[gb42]? = some (.cells #[.int .u32 0, .int .i64 0, .slice none 0 0, .slice none 0 0, .int .u32 0, .int .u32 0, .int .i64 0, .int .u32 0] 38 (0, 0))) := ⟨h9_⟩
   have n10_ : Aside0 (w.heap.size ≤ gb41) := ⟨h10_⟩
   have n11_ : Aside0 (w.heap.size ≤ gb41) := ⟨h11_⟩
   have n12_ : Aside0 (gb1 ≠ gb41) := ⟨h12_⟩
   have n13_ : Aside0 (gb41 ≠ gb1) := ⟨h13_⟩
   have n14_ : Aside0 (gb16 ≠ gb41) := ⟨h14_⟩
   have n15_ : Aside0 (gb41 ≠ gb16) := ⟨h15_⟩
   have n16_ : Aside0 (gb42 ≠ gb41) := ⟨h16_⟩
   have n17_ : Aside0 (gb41 ≠ gb42) := ⟨h17_⟩
   have n18_ : Aside0 (w.heap.size ≤ gb42) := ⟨h18_⟩
   have n19_ : Aside0 (w.heap.size ≤ gb42) := ⟨h19_⟩
   have n20_ : Aside0 (gb1 ≠ gb42) := ⟨h20_⟩
   have n21_ : Aside0 (gb42 ≠ gb1) := ⟨h21_⟩
   have n22_ : Aside0 (gb16 ≠ gb42) := ⟨h22_⟩
   have n23_ : Aside0 (gb42 ≠ gb16) := ⟨h23_⟩
   have n24_ : Aside0 (Below w.heap.size w w36) := ⟨h24_⟩
   clear HO8 HO11 BK1 BK16 HB h0_ h1_ h2_ h3_ h4_ h5_ h6_ h7_ h8_ h9_ h10_ h11_ h12_ h13_ h14_ h15_ h16_ h17_ h18_ h19_ h20_ h21_ h22_ h23_ h24_
   have HO11 := n0_
   have HO21 := n1_
   have HO24 := n2_
   have HO33 := n3_
   have HO36 := n4_
   have HO8 := n5_
   have BK1 := n6_
   have BK16 := n7_
   have BK41 := n8_
   have BK42 := n9_
   have GW41 := n10_
   have GE41 := n11_
   have NB1_41 := n12_
   have NB41_1 := n13_
   have NB16_41 := n14_
   have NB41_16 := n15_
   have NB42_41 := n16_
   have NB41_42 := n17_
   have GW42 := n18_
   have GE42 := n19_
   have NB1_42 := n20_
   have NB42_1 := n21_
   have NB16_42 := n22_
   have NB42_16 := n23_
   have HB := n24_
   clear n0_ n1_ n2_ n3_ n4_ n5_ n6_ n7_ n8_ n9_ n10_ n11_ n12_ n13_ n14_ n15_ n16_ n17_ n18_ n19_ n20_ n21_ n22_ n23_ n24_
   have hHeld : w36.cell? ⟨gb16, 0, none⟩ = some (.int .u32 t4) ∧ w36.cell? ⟨gb16, 1, none⟩ = some (.int .i64 t5) ∧ w36.cell? ⟨gb16, 2, none⟩ = some (.slice Ao28 t6.length co28) ∧ w36.cell? ⟨gb16, 3, none⟩ = some (.slice Ao29 t9.length co29) ∧ w36.cell? ⟨gb16, 4, none⟩ = some (.int .u32 t12) ∧ w36.cell? ⟨gb16, 5, none⟩ = some (.int .u32 t13) ∧ w36.cell? ⟨gb16, 6, none⟩ = some (.int .i64 t14) ∧ w36.cell? ⟨gb16, 7, none⟩ = some (.int .u32 t15) := hS_
   obtain ⟨Ao39, co39, eo39⟩ := Kd.R_slice HO21.out
   (first | subst eo39 | (injection eo39 with f1_ f2_ f3_; have f4_ := f1_.symm; have f5_ := f3_.symm; clear f1_ f2_ f3_; subst f4_; subst f5_))
   obtain ⟨Ao41, co41, eo41⟩ := Kd.R_slice HO24.out
   (first | subst eo41 | (injection eo41 with f1_ f2_ f3_; have f4_ := f1_.symm; have f5_ := f3_.symm; clear f1_ f2_ f3_; subst f4_; subst f5_))
   obtain ⟨Ao49, co49, eo49⟩ := Kd.R_slice HO33.out
   (first | subst eo49 | (injection eo49 with f1_ f2_ f3_; have f4_ := f1_.symm; have f5_ := f3_.symm; clear f1_ f2_ f3_; subst f4_; subst f5_))
   obtain ⟨Ao51, co51, eo51⟩ := Kd.R_slice HO36.out
   (first | subst eo51 | (injection eo51 with f1_ f2_ f3_; have f4_ := f1_.symm; have f5_ := f3_.symm; clear f1_ f2_ f3_; subst f4_; subst f5_))
   refine norm_ (a' := ?_) ?_ ?_
   rotate_left
   ·
    simp only [putAll, Act.put, List.setIfInBounds_toArray, List.set_cons_zero, List.set_cons_succ]
    rfl
   refine one_ (i := 6) (N := none) #[true, true, true, true, true, true, true, false] rfl rfl (one_of HT_.out (by kernel_rfl)) (by decide) (fun K hK => ?_)
   have hs37 : w36.cell? ⟨gb41, 0, none⟩ = some (.int .u32 0) := (blk_cell BK41.out 0).trans rfl
   have hfs37 := blk_frozen BK41.out 0
   have hns37_0 := NB1_41.out
   have hns37_1 := NB16_41.out
   have hns37_3 := NB42_41.out
   have hms37_0 := NB41_1.out
   have hms37_1 := NB41_16.out
   have hms37_3 := NB41_42.out
   have hs38 : w36.cell? ⟨gb41, 1, none⟩ = some (.int .i64 0) := (blk_cell BK41.out 1).trans rfl
   have hfs38 := blk_frozen BK41.out 1
   have hns38_0 := NB1_41.out
   have hns38_1 := NB16_41.out
   have hns38_3 := NB42_41.out
   have hms38_0 := NB41_1.out
   have hms38_1 := NB41_16.out
   have hms38_3 := NB41_42.out
   have hs40 : w36.cell? ⟨gb41, 2, none⟩ = some (.slice none 0 0) := (blk_cell BK41.out 2).trans rfl
   have hfs40 := blk_frozen BK41.out 2
   have hns40_0 := NB1_41.out
   have hns40_1 := NB16_41.out
   have hns40_3 := NB42_41.out
   have hms40_0 := NB41_1.out
   have hms40_1 := NB41_16.out
   have hms40_3 := NB41_42.out
   have hs42 : w36.cell? ⟨gb41, 3, none⟩ = some (.slice none 0 0) := (blk_cell BK41.out 3).trans rfl
   have hfs42 := blk_frozen BK41.out 3
   have hns42_0 := NB1_41.out
   have hns42_1 := NB16_41.out
   have hns42_3 := NB42_41.out
   have hms42_0 := NB41_1.out
   have hms42_1 := NB41_16.out
   have hms42_3 := NB41_42.out
   have hs43 : w36.cell? ⟨gb41, 4, none⟩ = some (.int .u32 0) := (blk_cell BK41.out 4).trans rfl
   have hfs43 := blk_frozen BK41.out 4
   have hns43_0 := NB1_41.out
   have hns43_1 := NB16_41.out
   have hns43_3 := NB42_41.out
   have hms43_0 := NB41_1.out
   have hms43_1 := NB41_16.out
   have hms43_3 := NB41_42.out
   have hs44 : w36.cell? ⟨gb41, 5, none⟩ = some (.int .u32 0) := (blk_cell BK41.out 5).trans rfl
   have hfs44 := blk_frozen BK41.out 5
   have hns44_0 := NB1_41.out
   have hns44_1 := NB16_41.out
   have hns44_3 := NB42_41.out
   have hms44_0 := NB41_1.out
   have hms44_1 := NB41_16.out
   have hms44_3 := NB41_42.out
   have hs45 : w36.cell? ⟨gb41, 6, none⟩ = some (.int .i64 0) := (blk_cell BK41.out 6).trans rfl
   have hfs45 := blk_frozen BK41.out 6
   have hns45_0 := NB1_41.out
   have hns45_1 := NB16_41.out
   have hns45_3 := NB42_41.out
   have hms45_0 := NB41_1.out
   have hms45_1 := NB41_16.out
   have hms45_3 := NB41_42.out
   have hs46 : w36.cell? ⟨gb41, 7, none⟩ = some (.int .u32 0) := (blk_cell BK41.out 7).trans rfl
   have hfs46 := blk_frozen BK41.out 7
   have hns46_0 := NB1_41.out
   have hns46_1 := NB16_41.out
   have hns46_3 := NB42_41.out
   have hms46_0 := NB41_1.out
   have hms46_1 := NB41_16.out
   have hms46_3 := NB41_42.out
   refine skip_ (w1 := ?_) (by rfl) rfl ?_ ?_
   rotate_left
   ·
    go_simp
    rfl
   refine hK.out _ _ ⟨((cell_far (p := ⟨gb41, _, none⟩) NB16_41.out _).trans (((cell_far (p := ⟨gb41, _, none⟩) NB16_41.out _).trans (((cell_far (p := ⟨gb41, _, none⟩) NB16_41.out _).trans (((cell_far (p := ⟨gb41, _, none⟩) NB16_41.out _).trans (((cell_far (p := ⟨gb41, _, none⟩) NB16_41.out _).trans (((cell_far (p := ⟨gb41, _, none⟩) NB16_41.out _).trans (((cell_far (p := ⟨gb41, _, none⟩) NB16_41.out _).trans (((cell_far (p := ⟨gb41, _, none⟩) NB16_41.out _).trans (hHeld.1)))))))))))))))), ((cell_far (p := ⟨gb41, _, none⟩) NB16_41.out _).trans (((cell_far (p := ⟨gb41, _, none⟩) NB16_41.out _).trans (((cell_far (p := ⟨gb41, _, none⟩) NB16_41.out _).trans (((cell_far (p := ⟨gb41, _, none⟩) NB16_41.out _).trans (((cell_far (p := ⟨gb41, _, none⟩) NB16_41.out _).trans (((cell_far (p := ⟨gb41, _, none⟩) NB16_41.out _).trans (((cell_far (p := ⟨gb41, _, none⟩) NB16_41.out _).trans (((cell_far (p := ⟨gb41, _, none⟩) NB16_41.out _).trans (hHeld.2.1)))))))))))))))), ((cell_far (p := ⟨gb41, _, none⟩) NB16_41.out _).trans (((cell_far (p := ⟨gb41, _, none⟩) NB16_41.out _).trans (((cell_far (p := ⟨gb41, _, none⟩) NB16_41.out _).trans (((cell_far (p := ⟨gb41, _, none⟩) NB16_41.out _).trans (((cell_far (p := ⟨gb41, _, none⟩) NB16_41.out _).trans (((cell_far (p := ⟨gb41, _, none⟩) NB16_41.out _).trans (((cell_far (p := ⟨gb41, _, none⟩) NB16_41.out _).trans (((cell_far (p := ⟨gb41, _, none⟩) NB16_41.out _).trans (hHeld.2.2.1)))))))))))))))), ((cell_far (p := ⟨gb41, _, none⟩) NB16_41.out _).trans (((cell_far (p := ⟨gb41, _, none⟩) NB16_41.out _).trans (((cell_far (p := ⟨gb41, _, none⟩) NB16_41.out _).trans (((cell_far (p := ⟨gb41, _, none⟩) NB16_41.out _).trans (((cell_far (p := ⟨gb41, _, none⟩) NB16_41.out _).trans (((cell_far (p := ⟨gb41, _, none⟩) NB16_41.out _).trans (((cell_far (p := ⟨gb41, _, none⟩) NB16_41.out _).trans (((cell_far (p := ⟨gb41, _, none⟩) NB16_41.out _).trans (hHeld.2.2.2.1)))))))))))))))), ((cell_far (p := ⟨gb41, _, none⟩) NB16_41.out _).trans (((cell_far (p := ⟨gb41, _, none⟩) NB16_41.out _).trans (((cell_far (p := ⟨gb41, _, none⟩) NB16_41.out _).trans (((cell_far (p := ⟨gb41, _, none⟩) NB16_41.out _).trans (((cell_far (p := ⟨gb41, _, none⟩) NB16_41.out _).trans (((cell_far (p := ⟨gb41, _, none⟩) NB16_41.out _).trans (((cell_far (p := ⟨gb41, _, none⟩) NB16_41.out _).trans (((cell_far (p := ⟨gb41, _, none⟩) NB16_41.out _).trans (hHeld.2.2.2.2.1)))))))))))))))), ((cell_far (p := ⟨gb41, _, none⟩) NB16_41.out _).trans (((cell_far (p := ⟨gb41, _, none⟩) NB16_41.out _).trans (((cell_far (p := ⟨gb41, _, none⟩) NB16_41.out _).trans (((cell_far (p := ⟨gb41, _, none⟩) NB16_41.out _).trans (((cell_far (p := ⟨gb41, _, none⟩) NB16_41.out _).trans (((cell_far (p := ⟨gb41, _, none⟩) NB16_41.out _).trans (((cell_far (p := ⟨gb41, _, none⟩) NB16_41.out _).trans (((cell_far (p := ⟨gb41, _, none⟩) NB16_41.out _).trans (hHeld.2.2.2.2.2.1)))))))))))))))), ((cell_far (p := ⟨gb41, _, none⟩) NB16_41.out _).trans (((cell_far (p := ⟨gb41, _, none⟩) NB16_41.out _).trans (((cell_far (p := ⟨gb41, _, none⟩) NB16_41.out _).trans (((cell_far (p := ⟨gb41, _, none⟩) NB16_41.out _).trans (((cell_far (p := ⟨gb41, _, none⟩) NB16_41.out _).trans (((cell_far (p := ⟨gb41, _, none⟩) NB16_41.out _).trans (((cell_far (p := ⟨gb41, _, none⟩) NB16_41.out _).trans (((cell_far (p := ⟨gb41, _, none⟩) NB16_41.out _).trans (hHeld.2.2.2.2.2.2.1)))))))))))))))), ((cell_far (p := ⟨gb41, _, none⟩) NB16_41.out _).trans (((cell_far (p := ⟨gb41, _, none⟩) NB16_41.out _).trans (((cell_far (p := ⟨gb41, _, none⟩) NB16_41.out _).trans (((cell_far (p := ⟨gb41, _, none⟩) NB16_41.out _).trans (((cell_far (p := ⟨gb41, _, none⟩) NB16_41.out _).trans (((cell_far (p := ⟨gb41, _, none⟩) NB16_41.out _).trans (((cell_far (p := ⟨gb41, _, none⟩) NB16_41.out _).trans (((cell_far (p := ⟨gb41, _, none⟩) NB16_41.out _).trans (hHeld.2.2.2.2.2.2.2))))))))))))))))⟩ (fun hHeld => ?_)
   clear hK K
   obtain ⟨wz, ez⟩ : ∃ z, z = ((((((((w36.setCell ⟨gb41, 0, none⟩ (.int .u32 t17)).setCell ⟨gb41, 1, none⟩ (.int .i64 t18)).setCell ⟨gb41, 2, none⟩ (.slice Ao39 t19.length co39)).setCell ⟨gb41, 3, none⟩ (.slice Ao41 t22.length co41)).setCell ⟨gb41, 4, none⟩ (.int .u32 t25)).setCell ⟨gb41, 5, none⟩ (.int .u32 t26)).setCell ⟨gb41, 6, none⟩ (.int .i64 t27)).setCell ⟨gb41, 7, none⟩ (.int .u32 t28)) := ⟨_, rfl⟩
   rw [← ez] at hHeld ⊢
   have n0_ : Aside0 (Kd.R (Kd.int .u32) 33 wz w.heap.size (fun k_ => some k_ ≠ (.slice Ao29 t9.length co29 : Value).ownBlock ∧ some k_ ≠ (.slice Ao39 t19.length co39 : Value).ownBlock ∧ some k_ ≠ (.slice Ao41 t22.length co41 : Value).ownBlock ∧ some k_ ≠ (.slice Ao49 t31.length co49 : Value).ownBlock ∧ some k_ ≠ (.slice Ao51 t34.length co51 : Value).ownBlock) (.slice Ao28 t6.length co28) t6) := ⟨by rw [ez]; exact moR (rW HO8)⟩
   have n1_ : Aside0 (Kd.R (Kd.int .u32) 33 wz w.heap.size (fun k_ => some k_ ≠ (.slice Ao28 t6.length co28 : Value).ownBlock ∧ some k_ ≠ (.slice Ao39 t19.length co39 : Value).ownBlock ∧ some k_ ≠ (.slice Ao41 t22.length co41 : Value).ownBlock ∧ some k_ ≠ (.slice Ao49 t31.length co49 : Value).ownBlock ∧ some k_ ≠ (.slice Ao51 t34.length co51 : Value).ownBlock) (.slice Ao29 t9.length co29) t9) := ⟨by rw [ez]; exact moR (rW HO11)⟩
   have n2_ : Aside0 (Kd.R (Kd.int .u32) 33 wz w.heap.size (fun k_ => some k_ ≠ (.slice Ao28 t6.length co28 : Value).ownBlock ∧ some k_ ≠ (.slice Ao29 t9.length co29 : Value).ownBlock ∧ some k_ ≠ (.slice Ao41 t22.length co41 : Value).ownBlock ∧ some k_ ≠ (.slice Ao49 t31.length co49 : Value).ownBlock ∧ some k_ ≠ (.slice Ao51 t34.length co51 : Value).ownBlock) (.slice Ao39 t19.length co39) t19) := ⟨by rw [ez]; exact moR (rW HO21)⟩
   have n3_ : Aside0 (Kd.R (Kd.int .u32) 33 wz w.heap.size (fun k_ => some k_ ≠ (.slice Ao28 t6.length co28 : Value).ownBlock ∧ some k_ ≠ (.slice Ao29 t9.length co29 : Value).ownBlock ∧ some k_ ≠ (.slice Ao39 t19.length co39 : Value).ownBlock ∧ some k_ ≠ (.slice Ao49 t31.length co49 : Value).ownBlock ∧ some k_ ≠ (.slice Ao51 t34.length co51 : Value).ownBlock) (.slice Ao41 t22.length co41) t22) := ⟨by rw [ez]; exact moR (rW HO24)⟩
   have n4_ : Aside0 (Kd.R (Kd.int .u32) 33 wz w.heap.size (fun k_ => some k_ ≠ (.slice Ao28 t6.length co28 : Value).ownBlock ∧ some k_ ≠ (.slice Ao29 t9.length co29 : Value).ownBlock ∧ some k_ ≠ (.slice Ao39 t19.length co39 : Value).ownBlock ∧ some k_ ≠ (.slice Ao41 t22.length co41 : Value).ownBlock ∧ some k_ ≠ (.slice Ao51 t34.length co51 : Value).ownBlock) (.slice Ao49 t31.length co49) t31) := ⟨by rw [ez]; exact moR (rW HO33)⟩
   have n5_ : Aside0 (Kd.R (Kd.int .u32) 33 wz w.heap.size (fun k_ => some k_ ≠ (.slice Ao28 t6.length co28 : Value).ownBlock ∧ some k_ ≠ (.slice Ao29 t9.length co29 : Value).ownBlock ∧ some k_ ≠ (.slice Ao39 t19.length co39 : Value).ownBlock ∧ some k_ ≠ (.slice Ao41 t22.length co41 : Value).ownBlock ∧ some k_ ≠ (.slice Ao49 t31.length co49 : Value).ownBlock) (.slice Ao51 t34.length co51) t34) := ⟨by rw [ez]; exact moR (rW HO36)⟩
   have n6_ : Aside0 (wz.heap[gb1]? = some (.cells #[.int .u32 a0_0, .int .i64 a0_1, .slice A0_2 l0_2.length c0_2, .slice A0_3 l0_3.length c0_3, .int .u32 a0_4, .int .u32 a0_5, .int .i64 a0_6, .int .u32 a0_7] 38 (0, 0))) := ⟨by rw [ez]; exact bkV BK1⟩
   have n7_ : Aside0 (wz.heap[gb16]? = some (.cells #[.int .u32 t4, .int .i64 t5, .slice Ao28 t6.length co28, .slice Ao29 t9.length co29, .int .u32 t12, .int .u32 t13, .int .i64 t14, .int .u32 t15] 38 (0, 0))) := ⟨by rw [ez]; exact bkV BK16⟩
   have n8_ : Aside0 (wz.heap[gb41]? = some (.cells #[.int .u32 t17, .int .i64 t18, .slice Ao39 t19.length co39, .slice Ao41 t22.length co41, .int .u32 t25, .int .u32 t26, .int .i64 t27, .int .u32 t28] 38 (0, 0))) := ⟨by rw [ez]; exact bp8 BK41⟩
   have n9_ : Aside0 (wz.heap[gb42]? = some (.cells #[.int .u32 0, .int .i64 0, .slice none 0 0, .slice none 0 0, .int .u32 0, .int .u32 0, .int .i64 0, .int .u32 0] 38 (0, 0))) := ⟨by rw [ez]; exact bkV BK42⟩
   have n10_ : Aside0 (Below w.heap.size w wz) := ⟨by rw [ez]; exact hbW HB⟩
   clear ez HO8 HO11 HO21 HO24 HO33 HO36 BK1 BK16 BK41 BK42 HB
   clear hs37 hfs37 hns37_0 hns37_1 hns37_3 hms37_0 hms37_1 hms37_3 hs38 hfs38 hns38_0 hns38_1 hns38_3 hms38_0 hms38_1 hms38_3 hs40 hfs40 hns40_0 hns40_1 hns40_3 hms40_0 hms40_1 hms40_3 hs42 hfs42 hns42_0 hns42_1 hns42_3 hms42_0 hms42_1 hms42_3 hs43 hfs43 hns43_0 hns43_1 hns43_3 hms43_0 hms43_1 hms43_3 hs44 hfs44 hns44_0 hns44_1 hns44_3 hms44_0 hms44_1 hms44_3 hs45 hfs45 hns45_0 hns45_1 hns45_3 hms45_0 hms45_1 hms45_3 hs46 hfs46 hns46_0 hns46_1 hns46_3 hms46_0 hms46_1 hms46_3
   have HO8 := n0_
   have HO11 := n1_
   have HO21 := n2_
   have HO24 := n3_
   have HO33 := n4_
   have HO36 := n5_
   have BK1 := n6_
   have BK16 := n7_
   have BK41 := n8_
   have BK42 := n9_
   have HB := n10_
   clear n0_ n1_ n2_ n3_ n4_ n5_ n6_ n7_ n8_ n9_ n10_
   refine one_ (i := 7) (N := none) #[true, true, true, true, true, true, true, true] rfl rfl (one_of HT_.out (by kernel_rfl)) (by decide) (fun K hK => ?_)
   have hs47 : wz.cell? ⟨gb42, 0, none⟩ = some (.int .u32 0) := (blk_cell BK42.out 0).trans rfl
   have hfs47 := blk_frozen BK42.out 0
   have hns47_0 := NB1_42.out
   have hns47_1 := NB16_42.out
   have hns47_2 := NB41_42.out
   have hms47_0 := NB42_1.out
   have hms47_1 := NB42_16.out
   have hms47_2 := NB42_41.out
   have hs48 : wz.cell? ⟨gb42, 1, none⟩ = some (.int .i64 0) := (blk_cell BK42.out 1).trans rfl
   have hfs48 := blk_frozen BK42.out 1
   have hns48_0 := NB1_42.out
   have hns48_1 := NB16_42.out
   have hns48_2 := NB41_42.out
   have hms48_0 := NB42_1.out
   have hms48_1 := NB42_16.out
   have hms48_2 := NB42_41.out
   have hs50 : wz.cell? ⟨gb42, 2, none⟩ = some (.slice none 0 0) := (blk_cell BK42.out 2).trans rfl
   have hfs50 := blk_frozen BK42.out 2
   have hns50_0 := NB1_42.out
   have hns50_1 := NB16_42.out
   have hns50_2 := NB41_42.out
   have hms50_0 := NB42_1.out
   have hms50_1 := NB42_16.out
   have hms50_2 := NB42_41.out
   have hs52 : wz.cell? ⟨gb42, 3, none⟩ = some (.slice none 0 0) := (blk_cell BK42.out 3).trans rfl
   have hfs52 := blk_frozen BK42.out 3
   have hns52_0 := NB1_42.out
   have hns52_1 := NB16_42.out
   have hns52_2 := NB41_42.out
   have hms52_0 := NB42_1.out
   have hms52_1 := NB42_16.out
   have hms52_2 := NB42_41.out
   have hs53 : wz.cell? ⟨gb42, 4, none⟩ = some (.int .u32 0) := (blk_cell BK42.out 4).trans rfl
   have hfs53 := blk_frozen BK42.out 4
   have hns53_0 := NB1_42.out
   have hns53_1 := NB16_42.out
   have hns53_2 := NB41_42.out
   have hms53_0 := NB42_1.out
   have hms53_1 := NB42_16.out
   have hms53_2 := NB42_41.out
   have hs54 : wz.cell? ⟨gb42, 5, none⟩ = some (.int .u32 0) := (blk_cell BK42.out 5).trans rfl
   have hfs54 := blk_frozen BK42.out 5
   have hns54_0 := NB1_42.out
   have hns54_1 := NB16_42.out
   have hns54_2 := NB41_42.out
   have hms54_0 := NB42_1.out
   have hms54_1 := NB42_16.out
   have hms54_2 := NB42_41.out
   have hs55 : wz.cell? ⟨gb42, 6, none⟩ = some (.int .i64 0) := (blk_cell BK42.out 6).trans rfl
   have hfs55 := blk_frozen BK42.out 6
   have hns55_0 := NB1_42.out
   have hns55_1 := NB16_42.out
   have hns55_2 := NB41_42.out
   have hms55_0 := NB42_1.out
   have hms55_1 := NB42_16.out
   have hms55_2 := NB42_41.out
   have hs56 : wz.cell? ⟨gb42, 7, none⟩ = some (.int .u32 0) := (blk_cell BK42.out 7).trans rfl
   have hfs56 := blk_frozen BK42.out 7
   have hns56_0 := NB1_42.out
   have hns56_1 := NB16_42.out
   have hns56_2 := NB41_42.out
   have hms56_0 := NB42_1.out
   have hms56_1 := NB42_16.out
   have hms56_2 := NB42_41.out
   refine skip_ (w1 := ?_) (by rfl) rfl ?_ ?_
   rotate_left
   ·
    go_simp
    rfl
   refine hK.out _ _ ⟨((cell_far (p := ⟨gb42, _, none⟩) NB16_42.out _).trans (((cell_far (p := ⟨gb42, _, none⟩) NB16_42.out _).trans (((cell_far (p := ⟨gb42, _, none⟩) NB16_42.out _).trans (((cell_far (p := ⟨gb42, _, none⟩) NB16_42.out _).trans (((cell_far (p := ⟨gb42, _, none⟩) NB16_42.out _).trans (((cell_far (p := ⟨gb42, _, none⟩) NB16_42.out _).trans (((cell_far (p := ⟨gb42, _, none⟩) NB16_42.out _).trans (((cell_far (p := ⟨gb42, _, none⟩) NB16_42.out _).trans (hHeld.1)))))))))))))))), ((cell_far (p := ⟨gb42, _, none⟩) NB16_42.out _).trans (((cell_far (p := ⟨gb42, _, none⟩) NB16_42.out _).trans (((cell_far (p := ⟨gb42, _, none⟩) NB16_42.out _).trans (((cell_far (p := ⟨gb42, _, none⟩) NB16_42.out _).trans (((cell_far (p := ⟨gb42, _, none⟩) NB16_42.out _).trans (((cell_far (p := ⟨gb42, _, none⟩) NB16_42.out _).trans (((cell_far (p := ⟨gb42, _, none⟩) NB16_42.out _).trans (((cell_far (p := ⟨gb42, _, none⟩) NB16_42.out _).trans (hHeld.2.1)))))))))))))))), ((cell_far (p := ⟨gb42, _, none⟩) NB16_42.out _).trans (((cell_far (p := ⟨gb42, _, none⟩) NB16_42.out _).trans (((cell_far (p := ⟨gb42, _, none⟩) NB16_42.out _).trans (((cell_far (p := ⟨gb42, _, none⟩) NB16_42.out _).trans (((cell_far (p := ⟨gb42, _, none⟩) NB16_42.out _).trans (((cell_far (p := ⟨gb42, _, none⟩) NB16_42.out _).trans (((cell_far (p := ⟨gb42, _, none⟩) NB16_42.out _).trans (((cell_far (p := ⟨gb42, _, none⟩) NB16_42.out _).trans (hHeld.2.2.1)))))))))))))))), ((cell_far (p := ⟨gb42, _, none⟩) NB16_42.out _).trans (((cell_far (p := ⟨gb42, _, none⟩) NB16_42.out _).trans (((cell_far (p := ⟨gb42, _, none⟩) NB16_42.out _).trans (((cell_far (p := ⟨gb42, _, none⟩) NB16_42.out _).trans (((cell_far (p := ⟨gb42, _, none⟩) NB16_42.out _).trans (((cell_far (p := ⟨gb42, _, none⟩) NB16_42.out _).trans (((cell_far (p := ⟨gb42, _, none⟩) NB16_42.out _).trans (((cell_far (p := ⟨gb42, _, none⟩) NB16_42.out _).trans (hHeld.2.2.2.1)))))))))))))))), ((cell_far (p := ⟨gb42, _, none⟩) NB16_42.out _).trans (((cell_far (p := ⟨gb42, _, none⟩) NB16_42.out _).trans (((cell_far (p := ⟨gb42, _, none⟩) NB16_42.out _).trans (((cell_far (p := ⟨gb42, _, none⟩) NB16_42.out _).trans (((cell_far (p := ⟨gb42, _, none⟩) NB16_42.out _).trans (((cell_far (p := ⟨gb42, _, none⟩) NB16_42.out _).trans (((cell_far (p := ⟨gb42, _, none⟩) NB16_42.out _).trans (((cell_far (p := ⟨gb42, _, none⟩) NB16_42.out _).trans (hHeld.2.2.2.2.1)))))))))))))))), ((cell_far (p := ⟨gb42, _, none⟩) NB16_42.out _).trans (((cell_far (p := ⟨gb42, _, none⟩) NB16_42.out _).trans (((cell_far (p := ⟨gb42, _, none⟩) NB16_42.out _).trans (((cell_far (p := ⟨gb42, _, none⟩) NB16_42.out _).trans (((cell_far (p := ⟨gb42, _, none⟩) NB16_42.out _).trans (((cell_far (p := ⟨gb42, _, none⟩) NB16_42.out _).trans (((cell_far (p := ⟨gb42, _, none⟩) NB16_42.out _).trans (((cell_far (p := ⟨gb42, _, none⟩) NB16_42.out _).trans (hHeld.2.2.2.2.2.1)))))))))))))))), ((cell_far (p := ⟨gb42, _, none⟩) NB16_42.out _).trans (((cell_far (p := ⟨gb42, _, none⟩) NB16_42.out _).trans (((cell_far (p := ⟨gb42, _, none⟩) NB16_42.out _).trans (((cell_far (p := ⟨gb42, _, none⟩) NB16_42.out _).trans (((cell_far (p := ⟨gb42, _, none⟩) NB16_42.out _).trans (((cell_far (p := ⟨gb42, _, none⟩) NB16_42.out _).trans (((cell_far (p := ⟨gb42, _, none⟩) NB16_42.out _).trans (((cell_far (p := ⟨gb42, _, none⟩) NB16_42.out _).trans (hHeld.2.2.2.2.2.2.1)))))))))))))))), ((cell_far (p := ⟨gb42, _, none⟩) NB16_42.out _).trans (((cell_far (p := ⟨gb42, _, none⟩) NB16_42.out _).trans (((cell_far (p := ⟨gb42, _, none⟩) NB16_42.out _).trans (((cell_far (p := ⟨gb42, _, none⟩) NB16_42.out _).trans (((cell_far (p := ⟨gb42, _, none⟩) NB16_42.out _).trans (((cell_far (p := ⟨gb42, _, none⟩) NB16_42.out _).trans (((cell_far (p := ⟨gb42, _, none⟩) NB16_42.out _).trans (((cell_far (p := ⟨gb42, _, none⟩) NB16_42.out _).trans (hHeld.2.2.2.2.2.2.2))))))))))))))))⟩ (fun hHeld => ?_)
   clear hK K
   refine done_ (done_of HT_.out (by kernel_rfl)) ?_
   try go_wp2
   have n0_ : Aside0 (Kd.R (Kd.int .u32) 33 ((((((((wz.setCell ⟨gb42, 0, none⟩ (.int .u32 t29)).setCell ⟨gb42, 1, none⟩ (.int .i64 t30)).setCell ⟨gb42, 2, none⟩ (.slice Ao49 t31.length co49)).setCell ⟨gb42, 3, none⟩ (.slice Ao51 t34.length co51)).setCell ⟨gb42, 4, none⟩ (.int .u32 t37)).setCell ⟨gb42, 5, none⟩ (.int .u32 t38)).setCell ⟨gb42, 6, none⟩ (.int .i64 t39)).setCell ⟨gb42, 7, none⟩ (.int .u32 t40)) w.heap.size (fun k_ => some k_ ≠ (.slice Ao29 t9.length co29 : Value).ownBlock ∧ some k_ ≠ (.slice Ao39 t19.length co39 : Value).ownBlock ∧ some k_ ≠ (.slice Ao41 t22.length co41 : Value).ownBlock ∧ some k_ ≠ (.slice Ao49 t31.length co49 : Value).ownBlock ∧ some k_ ≠ (.slice Ao51 t34.length co51 : Value).ownBlock) (.slice Ao28 t6.length co28) t6) := ⟨moR (rW HO8)⟩
   have n1_ : Aside0 (Kd.R (Kd.int .u32) 33 ((((((((wz.setCell ⟨gb42, 0, none⟩ (.int .u32 t29)).setCell ⟨gb42, 1, none⟩ (.int .i64 t30)).setCell ⟨gb42, 2, none⟩ (.slice Ao49 t31.length co49)).setCell ⟨gb42, 3, none⟩ (.slice Ao51 t34.length co51)).setCell ⟨gb42, 4, none⟩ (.int .u32 t37)).setCell ⟨gb42, 5, none⟩ (.int .u32 t38)).setCell ⟨gb42, 6, none⟩ (.int .i64 t39)).setCell ⟨gb42, 7, none⟩ (.int .u32 t40)) w.heap.size (fun k_ => some k_ ≠ (.slice Ao28 t6.length co28 : Value).ownBlock ∧ some k_ ≠ (.slice Ao39 t19.length co39 : Value).ownBlock ∧ some k_ ≠ (.slice Ao41 t22.length co41 : Value).ownBlock ∧ some k_ ≠ (.slice Ao49 t31.length co49 : Value).ownBlock ∧ some k_ ≠ (.slice Ao51 t34.length co51 : Value).ownBlock) (.slice Ao29 t9.length co29) t9) := ⟨moR (rW HO11)⟩
   have n2_ : Aside0 (Kd.R (Kd.int .u32) 33 ((((((((wz.setCell ⟨gb42, 0, none⟩ (.int .u32 t29)).setCell ⟨gb42, 1, none⟩ (.int .i64 t30)).setCell ⟨gb42, 2, none⟩ (.slice Ao49 t31.length co49)).setCell ⟨gb42, 3, none⟩ (.slice Ao51 t34.length co51)).setCell ⟨gb42, 4, none⟩ (.int .u32 t37)).setCell ⟨gb42, 5, none⟩ (.int .u32 t38)).setCell ⟨gb42, 6, none⟩ (.int .i64 t39)).setCell ⟨gb42, 7, none⟩ (.int .u32 t40)) w.heap.size (fun k_ => some k_ ≠ (.slice Ao28 t6.length co28 : Value).ownBlock ∧ some k_ ≠ (.slice Ao29 t9.length co29 : Value).ownBlock ∧ some k_ ≠ (.slice Ao41 t22.length co41 : Value).ownBlock ∧ some k_ ≠ (.slice Ao49 t31.length co49 : Value).ownBlock ∧ some k_ ≠ (.slice Ao51 t34.length co51 : Value).ownBlock) (.slice Ao39 t19.length co39) t19) := ⟨moR (rW HO21)⟩
   have n3_ : Aside0 (Kd.R (Kd.int .u32) 33 ((((((((wz.setCell ⟨gb42, 0, none⟩ (.int .u32 t29)).setCell ⟨gb42, 1, none⟩ (.int .i64 t30)).setCell ⟨gb42, 2, none⟩ (.slice Ao49 t31.length co49)).setCell ⟨gb42, 3, none⟩ (.slice Ao51 t34.length co51)).setCell ⟨gb42, 4, none⟩ (.int .u32 t37)).setCell ⟨gb42, 5, none⟩ (.int .u32 t38)).setCell ⟨gb42, 6, none⟩ (.int .i64 t39)).setCell ⟨gb42, 7, none⟩ (.int .u32 t40)) w.heap.size (fun k_ => some k_ ≠ (.slice Ao28 t6.length co28 : Value).ownBlock ∧ some k_ ≠ (.slice Ao29 t9.length co29 : Value).ownBlock ∧ some k_ ≠ (.slice Ao39 t19.length co39 : Value).ownBlock ∧ some k_ ≠ (.slice Ao49 t31.length co49 : Value).ownBlock ∧ some k_ ≠ (.slice Ao51 t34.length co51 : Value).ownBlock) (.slice Ao41 t22.length co41) t22) := ⟨moR (rW HO24)⟩
   have n4_ : Aside0 (Kd.R (Kd.int .u32) 33 ((((((((wz.setCell ⟨gb42, 0, none⟩ (.int .u32 t29)).setCell ⟨gb42, 1, none⟩ (.int .i64 t30)).setCell ⟨gb42, 2, none⟩ (.slice Ao49 t31.length co49)).setCell ⟨gb42, 3, none⟩ (.slice Ao51 t34.length co51)).setCell ⟨gb42, 4, none⟩ (.int .u32 t37)).setCell ⟨gb42, 5, none⟩ (.int .u32 t38)).setCell ⟨gb42, 6, none⟩ (.int .i64 t39)).setCell ⟨gb42, 7, none⟩ (.int .u32 t40)) w.heap.size (fun k_ => some k_ ≠ (.slice Ao28 t6.length co28 : Value).ownBlock ∧ some k_ ≠ (.slice Ao29 t9.length co29 : Value).ownBlock ∧ some k_ ≠ (.slice Ao39 t19.length co39 : Value).ownBlock ∧ some k_ ≠ (.slice Ao41 t22.length co41 : Value).ownBlock ∧ some k_ ≠ (.slice Ao51 t34.length co51 : Value).ownBlock) (.slice Ao49 t31.length co49) t31) := ⟨moR (rW HO33)⟩
   have n5_ : Aside0 (Kd.R (Kd.int .u32) 33 ((((((((wz.setCell ⟨gb42, 0, none⟩ (.int .u32 t29)).setCell ⟨gb42, 1, none⟩ (.int .i64 t30)).setCell ⟨gb42, 2, none⟩ (.slice Ao49 t31.length co49)).setCell ⟨gb42, 3, none⟩ (.slice Ao51 t34.length co51)).setCell ⟨gb42, 4, none⟩ (.int .u32 t37)).setCell ⟨gb42, 5, none⟩ (.int .u32 t38)).setCell ⟨gb42, 6, none⟩ (.int .i64 t39)).setCell ⟨gb42, 7, none⟩ (.int .u32 t40)) w.heap.size (fun k_ => some k_ ≠ (.slice Ao28 t6.length co28 : Value).ownBlock ∧ some k_ ≠ (.slice Ao29 t9.length co29 : Value).ownBlock ∧ some k_ ≠ (.slice Ao39 t19.length co39 : Value).ownBlock ∧ some k_ ≠ (.slice Ao41 t22.length co41 : Value).ownBlock ∧ some k_ ≠ (.slice Ao49 t31.length co49 : Value).ownBlock) (.slice Ao51 t34.length co51) t34) := ⟨moR (rW HO36)⟩
   have n6_ : Aside0 (((((((((wz.setCell ⟨gb42, 0, none⟩ (.int .u32 t29)).setCell ⟨gb42, 1, none⟩ (.int .i64 t30)).setCell ⟨gb42, 2, none⟩ (.slice Ao49 t31.length co49)).setCell ⟨gb42, 3, none⟩ (.slice Ao51 t34.length co51)).setCell ⟨gb42, 4, none⟩ (.int .u32 t37)).setCell ⟨gb42, 5, none⟩ (.int .u32 t38)).setCell ⟨gb42, 6, none⟩ (.int .i64 t39)).setCell ⟨gb42, 7, none⟩ (.int .u32 t40)).heap[gb1]? = some (.cells #[.int .u32 a0_0, .int .i64 a0_1, .slice A0_2 l0_2.length c0_2, .slice A0_3 l0_3.length c0_3, .int .u32 a0_4, .int .u32 a0_5, .int .i64 a0_6, .int .u32 a0_7] 38 (0, 0))) := ⟨bkV BK1⟩
   have n7_ : Aside0 (((((((((wz.setCell ⟨gb42, 0, none⟩ (.int .u32 t29)).setCell ⟨gb42, 1, none⟩ (.int .i64 t30)).setCell ⟨gb42, 2, none⟩ (.slice Ao49 t31.length co49)).setCell ⟨gb42, 3, none⟩ (.slice Ao51 t34.length co51)).setCell ⟨gb42, 4, none⟩ (.int .u32 t37)).setCell ⟨gb42, 5, none⟩ (.int .u32 t38)).setCell ⟨gb42, 6, none⟩ (.int .i64 t39)).setCell ⟨gb42, 7, none⟩ (.int .u32 t40)).heap[gb16]? = some (.cells #[.int .u32 t4, .int .i64 t5, .slice Ao28 t6.length co28, .slice Ao29 t9.length co29, .int .u32 t12, .int .u32 t13, .int .i64 t14, .int .u32 t15] 38 (0, 0))) := ⟨bkV BK16⟩
   have n8_ : Aside0 (((((((((wz.setCell ⟨gb42, 0, none⟩ (.int .u32 t29)).setCell ⟨gb42, 1, none⟩ (.int .i64 t30)).setCell ⟨gb42, 2, none⟩ (.slice Ao49 t31.length co49)).setCell ⟨gb42, 3, none⟩ (.slice Ao51 t34.length co51)).setCell ⟨gb42, 4, none⟩ (.int .u32 t37)).setCell ⟨gb42, 5, none⟩ (.int .u32 t38)).setCell ⟨gb42, 6, none⟩ (.int .i64 t39)).setCell ⟨gb42, 7, none⟩ (.int .u32 t40)).heap[gb41]? = some (.cells #[.int .u32 t17, .int .i64 t18, .slice Ao39 t19.length co39, .slice Ao41 t22.length co41, .int .u32 t25, .int .u32 t26, .int .i64 t27, .int .u32 t28] 38 (0, 0))) := ⟨bkV BK41⟩
   have n9_ : Aside0 (((((((((wz.setCell ⟨gb42, 0, none⟩ (.int .u32 t29)).setCell ⟨gb42, 1, none⟩ (.int .i64 t30)).setCell ⟨gb42, 2, none⟩ (.slice Ao49 t31.length co49)).setCell ⟨gb42, 3, none⟩ (.slice Ao51 t34.length co51)).setCell ⟨gb42, 4, none⟩ (.int .u32 t37)).setCell ⟨gb42, 5, none⟩ (.int .u32 t38)).setCell ⟨gb42, 6, none⟩ (.int .i64 t39)).setCell ⟨gb42, 7, none⟩ (.int .u32 t40)).heap[gb42]? = some (.cells #[.int .u32 t29, .int .i64 t30, .slice Ao49 t31.length co49, .slice Ao51 t34.length co51, .int .u32 t37, .int .u32 t38, .int .i64 t39, .int .u32 t40] 38 (0, 0))) := ⟨bp8 BK42⟩
   have n10_ : Aside0 (Below w.heap.size w ((((((((wz.setCell ⟨gb42, 0, none⟩ (.int .u32 t29)).setCell ⟨gb42, 1, none⟩ (.int .i64 t30)).setCell ⟨gb42, 2, none⟩ (.slice Ao49 t31.length co49)).setCell ⟨gb42, 3, none⟩ (.slice Ao51 t34.length co51)).setCell ⟨gb42, 4, none⟩ (.int .u32 t37)).setCell ⟨gb42, 5, none⟩ (.int .u32 t38)).setCell ⟨gb42, 6, none⟩ (.int .i64 t39)).setCell ⟨gb42, 7, none⟩ (.int .u32 t40))) := ⟨hbW HB⟩
   (try clear HO8)
   (try clear HO11)
   (try clear HO21)
   (try clear HO24)
   (try clear HO33)
   (try clear HO36)
   (try clear BK1)
   (try clear BK16)
   (try clear BK41)
   (try clear BK42)
   (try clear HB)
   generalize ((((((((wz.setCell ⟨gb42, 0, none⟩ (.int .u32 t29)).setCell ⟨gb42, 1, none⟩ (.int .i64 t30)).setCell ⟨gb42, 2, none⟩ (.slice Ao49 t31.length co49)).setCell ⟨gb42, 3, none⟩ (.slice Ao51 t34.length co51)).setCell ⟨gb42, 4, none⟩ (.int .u32 t37)).setCell ⟨gb42, 5, none⟩ (.int .u32 t38)).setCell ⟨gb42, 6, none⟩ (.int .i64 t39)).setCell ⟨gb42, 7, none⟩ (.int .u32 t40)) = w57 at n0_ n1_ n2_ n3_ n4_ n5_ n6_ n7_ n8_ n9_ n10_ ⊢
   have HO8 := n0_
   have HO11 := n1_
   have HO21 := n2_
   have HO24 := n3_
   have HO33 := n4_
   have HO36 := n5_
   have BK1 := n6_
   have BK16 := n7_
   have BK41 := n8_
   have BK42 := n9_
   have HB := n10_
   clear n0_ n1_ n2_ n3_ n4_ n5_ n6_ n7_ n8_ n9_ n10_
   replace HO8 := Aside0.mk (Kd.R_drew HO8.out)
   replace HO11 := Aside0.mk (Kd.R_drew HO11.out)
   replace HO21 := Aside0.mk (Kd.R_drew HO21.out)
   replace HO24 := Aside0.mk (Kd.R_drew HO24.out)
   replace HO33 := Aside0.mk (Kd.R_drew HO33.out)
   replace HO36 := Aside0.mk (Kd.R_drew HO36.out)
   replace BK1 := Aside0.mk (blk_drew BK1.out)
   replace BK16 := Aside0.mk (blk_drew BK16.out)
   replace BK41 := Aside0.mk (blk_drew BK41.out)
   replace BK42 := Aside0.mk (blk_drew BK42.out)
   replace HB := Aside0.mk (below_drew1 HB.out)
   have H := HP_.out
   clear HP_
   by_cases c15 : t55 = 0
   ·
    rw [if_pos c15] at H
    have c15b0 : (t55 == 0) = true := beq_iff_eq.mpr c15
    have c15b1 : (t55 != 0) = false := bne_eq_false_iff_eq.mpr c15
    clear c15
    replace H := Option.bind_eq_some_iff.mp H
    obtain ⟨t56, A160, H⟩ := H
    replace H : (if t56 = 0 then ((q20z.f k t4 t5 t6 t9 t12 t13 t14 t15 a0_0 a0_1 l0_2 l0_3 a0_4 a0_5 a0_6 a0_7).bind fun t57 => (some (t57 == 0))) else (some false)) = some r := H
    have A16 := Aside0.mk A160
    clear A160
    by_cases c17 : t56 = 0
    ·
     rw [if_pos c17] at H
     have c17b0 : (t56 == 0) = true := beq_iff_eq.mpr c17
     have c17b1 : (t56 != 0) = false := bne_eq_false_iff_eq.mpr c17
     clear c17
     replace H := Option.bind_eq_some_iff.mp H
     obtain ⟨t57, A180, H⟩ := H
     replace H : (some (t57 == 0)) = some r := H
     have A18 := Aside0.mk A180
     clear A180
     obtain rfl := Option.some.inj H
     refine start_ (n := 11) (S := fun w' => w'.cell? ⟨gb41, 0, none⟩ = some (.int .u32 t17) ∧ w'.cell? ⟨gb41, 1, none⟩ = some (.int .i64 t18) ∧ w'.cell? ⟨gb41, 2, none⟩ = some (.slice Ao39 t19.length co39) ∧ w'.cell? ⟨gb41, 3, none⟩ = some (.slice Ao41 t22.length co41) ∧ w'.cell? ⟨gb41, 4, none⟩ = some (.int .u32 t25) ∧ w'.cell? ⟨gb41, 5, none⟩ = some (.int .u32 t26) ∧ w'.cell? ⟨gb41, 6, none⟩ = some (.int .i64 t27) ∧ w'.cell? ⟨gb41, 7, none⟩ = some (.int .u32 t28) ∧ w'.cell? ⟨gb1, 0, none⟩ = some (.int .u32 a0_0) ∧ w'.cell? ⟨gb1, 1, none⟩ = some (.int .i64 a0_1) ∧ w'.cell? ⟨gb1, 2, none⟩ = some (.slice A0_2 l0_2.length c0_2) ∧ w'.cell? ⟨gb1, 3, none⟩ = some (.slice A0_3 l0_3.length c0_3) ∧ w'.cell? ⟨gb1, 4, none⟩ = some (.int .u32 a0_4) ∧ w'.cell? ⟨gb1, 5, none⟩ = some (.int .u32 a0_5) ∧ w'.cell? ⟨gb1, 6, none⟩ = some (.int .i64 a0_6) ∧ w'.cell? ⟨gb1, 7, none⟩ = some (.int .u32 a0_7) ∧ w'.cell? ⟨gb42, 0, none⟩ = some (.int .u32 t29) ∧ w'.cell? ⟨gb42, 1, none⟩ = some (.int .i64 t30) ∧ w'.cell? ⟨gb42, 2, none⟩ = some (.slice Ao49 t31.length co49) ∧ w'.cell? ⟨gb42, 3, none⟩ = some (.slice Ao51 t34.length co51) ∧ w'.cell? ⟨gb42, 4, none⟩ = some (.int .u32 t37) ∧ w'.cell? ⟨gb42, 5, none⟩ = some (.int .u32 t38) ∧ w'.cell? ⟨gb42, 6, none⟩ = some (.int .i64 t39) ∧ w'.cell? ⟨gb42, 7, none⟩ = some (.int .u32 t40)) (ds := []) #[false, false, false, false, false, false, false, false, false, false, false] (by kernel_rfl) rfl rfl (bk8 BK41 (bk8 BK1 (bl8 BK42))) (fun hHeld => ?_); refine with_tabW q24z.tab7 q24z.bits7 (fun HT_ HW_ => ?_)
     generalize w57.drew = w58 at HO8 HO11 HO21 HO24 HO33 HO36 BK1 BK16 BK41 BK42 HB hHeld ⊢
     refine take_ (i := 0) (N := some 19) (v := ?_) (a' := ?_) #[true, false, false, false, false, false, false, false, false, false, false] rfl rfl (take_ofW HT_.out HW_.out (by kernel_rfl)) (fun _ _ _ h => h) (Or.inl ⟨by rfl, ?_⟩) hHeld ?_ ?_
     rotate_left
     ·
      rintro w' ⟨s0, s1, s2, s3, s4, s5, s6, s7, s8, s9, s10, s11, s12, s13, s14, s15, s16, s17, s18, s19, s20, s21, s22, s23⟩
      go_simp
      with_reducible rfl
     rotate_left
     ·
      simp only [Act.put, List.setIfInBounds_toArray, List.set_cons_zero, List.set_cons_succ, i64_w, i32_w, IntKind.wrap_u32]
      rfl
     refine take_ (i := 1) (N := some 20) (v := ?_) (a' := ?_) #[true, true, false, false, false, false, false, false, false, false, false] rfl rfl (take_ofW HT_.out HW_.out (by kernel_rfl)) (fun _ _ _ h => h) (Or.inl ⟨by rfl, ?_⟩) hHeld ?_ ?_
     rotate_left
     ·
      rintro w' ⟨s0, s1, s2, s3, s4, s5, s6, s7, s8, s9, s10, s11, s12, s13, s14, s15, s16, s17, s18, s19, s20, s21, s22, s23⟩
      go_simp
      with_reducible rfl
     rotate_left
     ·
      simp only [Act.put, List.setIfInBounds_toArray, List.set_cons_zero, List.set_cons_succ, i64_w, i32_w, IntKind.wrap_u32]
      rfl
     refine one_ (i := 2) (N := some 21) #[true, true, true, false, false, false, false, false, false, false, false] rfl rfl (one_of HT_.out (by kernel_rfl)) (by decide) (fun K hK => ?_)
     refine goes_ Try.func39 (by kernel_rfl) rfl #[.agg #[.int .u32 a0_0, .int .i64 a0_1, .slice A0_2 l0_2.length c0_2, .slice A0_3 l0_3.length c0_3, .int .u32 a0_4, .int .u32 a0_5, .int .i64 a0_6, .int .u32 a0_7]] (by rfl) rfl rfl (by (try simp only [List.map_toArray, List.map_cons, List.map_nil]); first | done | rfl | (simp only [List.length_drop, List.length_take]; rfl)) ?_
     with_reducible refine (q23z.calls k a0_0 a0_1 _ _ l0_2 _ _ l0_3 a0_4 a0_5 a0_6 a0_7 t43 t44 t45 t48 t51 t52 t53 t54 _ ?side1 ?side2 ?side3 ?side4 A13.out).mono ?_
     (case side1 => repeat (first | exact (Kd.C_below HR0_2.out HB.out) | (with_reducible refine Kd.C_alloc ?_ _) | (with_reducible refine Kd.C_drewN ?_ _) | (with_reducible refine Kd.C_drew ?_)))
     (case side2 => exact HC0_2.out)
     (case side3 => repeat (first | exact (Kd.C_below HR0_3.out HB.out) | (with_reducible refine Kd.C_alloc ?_ _) | (with_reducible refine Kd.C_drewN ?_ _) | (with_reducible refine Kd.C_drew ?_)))
     (case side4 => exact HC0_3.out)
     rintro e w59 ⟨v46, v49, rfl, ho0, ho1, hb⟩
     refine ⟨_, rfl, ?_⟩
     have HO47 := Aside0.mk (Kd.R_lower (Kd.R_new' (Kd.R_new' (Kd.R_new' (Kd.R_new' (Kd.R_new' (Kd.R_new' ho0 (Kd.R_lt (rW HO8))) (Kd.R_lt (rW HO11))) (Kd.R_lt (rW HO21))) (Kd.R_lt (rW HO24))) (Kd.R_lt (rW HO33))) (Kd.R_lt (rW HO36))) (below_size (hbW HB)))
     have HO50 := Aside0.mk (Kd.R_lower (Kd.R_new' (Kd.R_new' (Kd.R_new' (Kd.R_new' (Kd.R_new' (Kd.R_new' ho1 (Kd.R_lt (rW HO8))) (Kd.R_lt (rW HO11))) (Kd.R_lt (rW HO21))) (Kd.R_lt (rW HO24))) (Kd.R_lt (rW HO33))) (Kd.R_lt (rW HO36))) (below_size (hbW HB)))
     replace HO8 := Aside0.mk (Kd.R_mono (Kd.R_told (Kd.R_told (Kd.R_old (rW HO8) hb) (Kd.R_base ho0)) (Kd.R_base ho1)) (fun _ h_ => h_.1))
     replace HO11 := Aside0.mk (Kd.R_mono (Kd.R_told (Kd.R_told (Kd.R_old (rW HO11) hb) (Kd.R_base ho0)) (Kd.R_base ho1)) (fun _ h_ => h_.1))
     replace HO21 := Aside0.mk (Kd.R_mono (Kd.R_told (Kd.R_told (Kd.R_old (rW HO21) hb) (Kd.R_base ho0)) (Kd.R_base ho1)) (fun _ h_ => h_.1))
     replace HO24 := Aside0.mk (Kd.R_mono (Kd.R_told (Kd.R_told (Kd.R_old (rW HO24) hb) (Kd.R_base ho0)) (Kd.R_base ho1)) (fun _ h_ => h_.1))
     replace HO33 := Aside0.mk (Kd.R_mono (Kd.R_told (Kd.R_told (Kd.R_old (rW HO33) hb) (Kd.R_base ho0)) (Kd.R_base ho1)) (fun _ h_ => h_.1))
     replace HO36 := Aside0.mk (Kd.R_mono (Kd.R_told (Kd.R_told (Kd.R_old (rW HO36) hb) (Kd.R_base ho0)) (Kd.R_base ho1)) (fun _ h_ => h_.1))
     replace BK1 := bkB BK1 hb
     replace BK16 := bkB BK16 hb
     replace BK41 := bkB BK41 hb
     replace BK42 := bkB BK42 hb
     replace HB := hbS HB hb
     (try clear hb)
     (try clear ho0)
     (try clear ho1)
     obtain ⟨Ao60, co60, eo60⟩ := Kd.R_slice HO47.out
     (first | subst eo60 | (injection eo60 with f1_ f2_ f3_; have f4_ := f1_.symm; have f5_ := f3_.symm; clear f1_ f2_ f3_; subst f4_; subst f5_))
     obtain ⟨Ao61, co61, eo61⟩ := Kd.R_slice HO50.out
     (first | subst eo61 | (injection eo61 with f1_ f2_ f3_; have f4_ := f1_.symm; have f5_ := f3_.symm; clear f1_ f2_ f3_; subst f4_; subst f5_))
     refine hK.out _ _ (bk8 BK41 (bk8 BK1 (bl8 BK42))) (fun hHeld => ?_)
     clear hK K
     refine norm_ (a' := ?_) ?_ ?_
     rotate_left
     ·
      show Act.put _ (some 21) _ = _
      simp only [Act.put, List.setIfInBounds_toArray, List.set_cons_zero, List.set_cons_succ, i64_w, i32_w, IntKind.wrap_u32]
      rfl
     refine one_ (i := 3) (N := some 22) #[true, true, true, true, false, false, false, false, false, false, false] rfl rfl (one_of HT_.out (by kernel_rfl)) (by decide) (fun K hK => ?_)
     refine goes_ Try.func38 (by kernel_rfl) rfl #[.agg #[.int .u32 t17, .int .i64 t18, .slice Ao39 t19.length co39, .slice Ao41 t22.length co41, .int .u32 t25, .int .u32 t26, .int .i64 t27, .int .u32 t28], .agg #[.int .u32 t43, .int .i64 t44, .slice Ao60 t45.length co60, .slice Ao61 t48.length co61, .int .u32 t51, .int .u32 t52, .int .i64 t53, .int .u32 t54]] (by rfl) rfl rfl (by (try simp only [List.map_toArray, List.map_cons, List.map_nil]); first | done | rfl | (simp only [List.length_drop, List.length_take]; rfl)) ?_
     with_reducible refine (q20z.calls k t17 t18 _ _ t19 _ _ t22 t25 t26 t27 t28 t43 t44 _ _ t45 _ _ t48 t51 t52 t53 t54 t55 _ ?side1 ?side2 ?side3 ?side4 ?side5 ?side6 ?side7 ?side8 A14.out).mono ?_
     (case side1 => repeat (first | exact (Kd.R_reads' HO21.out).2.2 | (with_reducible refine Kd.C_alloc ?_ _) | (with_reducible refine Kd.C_drewN ?_ _) | (with_reducible refine Kd.C_drew ?_)))
     (case side2 => exact (Kd.R_reads' HO21.out).2.1)
     (case side3 => repeat (first | exact (Kd.R_reads' HO24.out).2.2 | (with_reducible refine Kd.C_alloc ?_ _) | (with_reducible refine Kd.C_drewN ?_ _) | (with_reducible refine Kd.C_drew ?_)))
     (case side4 => exact (Kd.R_reads' HO24.out).2.1)
     (case side5 => repeat (first | exact (Kd.R_reads' HO47.out).2.2 | (with_reducible refine Kd.C_alloc ?_ _) | (with_reducible refine Kd.C_drewN ?_ _) | (with_reducible refine Kd.C_drew ?_)))
     (case side6 => exact (Kd.R_reads' HO47.out).2.1)
     (case side7 => repeat (first | exact (Kd.R_reads' HO50.out).2.2 | (with_reducible refine Kd.C_alloc ?_ _) | (with_reducible refine Kd.C_drewN ?_ _) | (with_reducible refine Kd.C_drew ?_)))
     (case side8 => exact (Kd.R_reads' HO50.out).2.1)
     rintro e w62 ⟨rfl, hb⟩
     refine ⟨_, rfl, ?_⟩
     replace HO8 := Aside0.mk (Kd.R_below (rW HO8) hb)
     replace HO11 := Aside0.mk (Kd.R_below (rW HO11) hb)
     replace HO21 := Aside0.mk (Kd.R_below (rW HO21) hb)
     replace HO24 := Aside0.mk (Kd.R_below (rW HO24) hb)
     replace HO33 := Aside0.mk (Kd.R_below (rW HO33) hb)
     replace HO36 := Aside0.mk (Kd.R_below (rW HO36) hb)
     replace HO47 := Aside0.mk (Kd.R_below (rW HO47) hb)
     replace HO50 := Aside0.mk (Kd.R_below (rW HO50) hb)
     replace BK1 := bkB BK1 hb
     replace BK16 := bkB BK16 hb
     replace BK41 := bkB BK41 hb
     replace BK42 := bkB BK42 hb
     replace HB := hbS HB hb
     (try clear hb)
     refine hK.out _ _ (bk8 BK41 (bk8 BK1 (bl8 BK42))) (fun hHeld => ?_)
     clear hK K
     refine norm_ (a' := ?_) ?_ ?_
     rotate_left
     ·
      show Act.put _ (some 22) _ = _
      simp only [Act.put, List.setIfInBounds_toArray, List.set_cons_zero, List.set_cons_succ, i64_w, i32_w, IntKind.wrap_u32]
      rfl
     refine pure_ (i := 4) (N := some 23) (v := ?_) (a' := ?_) #[true, true, true, true, true, false, false, false, false, false, false] rfl rfl (any_of HT_.out (by kernel_rfl)) (fun _ _ _ h => h) (Or.inl ⟨by rfl, ?_⟩) ?_ ?_
     rotate_left
     ·
      intro w'
      go_simp
      with_reducible rfl
     rotate_left
     ·
      simp only [Act.put, List.setIfInBounds_toArray, List.set_cons_zero, List.set_cons_succ, i64_w, i32_w, IntKind.wrap_u32]
      rfl
     refine pure_ (i := 5) (N := some 24) (v := ?_) (a' := ?_) #[true, true, true, true, true, true, false, false, false, false, false] rfl rfl (any_of HT_.out (by kernel_rfl)) (fun _ _ _ h => h) (Or.inl ⟨by rfl, ?_⟩) ?_ ?_
     rotate_left
     ·
      intro w'
      go_simp
      with_reducible rfl
     rotate_left
     ·
      simp only [Act.put, List.setIfInBounds_toArray, List.set_cons_zero, List.set_cons_succ, i64_w, i32_w, IntKind.wrap_u32]
      rfl
     refine take_ (i := 6) (N := some 25) (v := ?_) (a' := ?_) #[true, true, true, true, true, true, true, false, false, false, false] rfl rfl (take_ofW HT_.out HW_.out (by kernel_rfl)) (fun _ _ _ h => h) (Or.inl ⟨by rfl, ?_⟩) hHeld ?_ ?_
     rotate_left
     ·
      rintro w' ⟨s0, s1, s2, s3, s4, s5, s6, s7, s8, s9, s10, s11, s12, s13, s14, s15, s16, s17, s18, s19, s20, s21, s22, s23⟩
      go_simp
      with_reducible rfl
     rotate_left
     ·
      simp only [Act.put, List.setIfInBounds_toArray, List.set_cons_zero, List.set_cons_succ, i64_w, i32_w, IntKind.wrap_u32]
      rfl
     refine take_ (i := 7) (N := some 26) (v := ?_) (a' := ?_) #[true, true, true, true, true, true, true, true, false, false, false] rfl rfl (take_ofW HT_.out HW_.out (by kernel_rfl)) (fun _ _ _ h => h) (Or.inl ⟨by rfl, ?_⟩) hHeld ?_ ?_
     rotate_left
     ·
      rintro w' ⟨s0, s1, s2, s3, s4, s5, s6, s7, s8, s9, s10, s11, s12, s13, s14, s15, s16, s17, s18, s19, s20, s21, s22, s23⟩
      go_simp
      with_reducible rfl
     rotate_left
     ·
      simp only [Act.put, List.setIfInBounds_toArray, List.set_cons_zero, List.set_cons_succ, i64_w, i32_w, IntKind.wrap_u32]
      rfl
     refine one_ (i := 8) (N := some 27) #[true, true, true, true, true, true, true, true, true, false, false] rfl rfl (one_of HT_.out (by kernel_rfl)) (by decide) (fun K hK => ?_)
     refine goes_ Try.func38 (by kernel_rfl) rfl #[.agg #[.int .u32 t29, .int .i64 t30, .slice Ao49 t31.length co49, .slice Ao51 t34.length co51, .int .u32 t37, .int .u32 t38, .int .i64 t39, .int .u32 t40], .agg #[.int .u32 a0_0, .int .i64 a0_1, .slice A0_2 l0_2.length c0_2, .slice A0_3 l0_3.length c0_3, .int .u32 a0_4, .int .u32 a0_5, .int .i64 a0_6, .int .u32 a0_7]] (by rfl) rfl rfl (by (try simp only [List.map_toArray, List.map_cons, List.map_nil]); first | done | rfl | (simp only [List.length_drop, List.length_take]; rfl)) ?_
     with_reducible refine (q20z.calls k t29 t30 _ _ t31 _ _ t34 t37 t38 t39 t40 a0_0 a0_1 _ _ l0_2 _ _ l0_3 a0_4 a0_5 a0_6 a0_7 t56 _ ?side1 ?side2 ?side3 ?side4 ?side5 ?side6 ?side7 ?side8 A16.out).mono ?_
     (case side1 => repeat (first | exact (Kd.R_reads' HO33.out).2.2 | (with_reducible refine Kd.C_alloc ?_ _) | (with_reducible refine Kd.C_drewN ?_ _) | (with_reducible refine Kd.C_drew ?_)))
     (case side2 => exact (Kd.R_reads' HO33.out).2.1)
     (case side3 => repeat (first | exact (Kd.R_reads' HO36.out).2.2 | (with_reducible refine Kd.C_alloc ?_ _) | (with_reducible refine Kd.C_drewN ?_ _) | (with_reducible refine Kd.C_drew ?_)))
     (case side4 => exact (Kd.R_reads' HO36.out).2.1)
     (case side5 => repeat (first | exact (Kd.C_below HR0_2.out HB.out) | (with_reducible refine Kd.C_alloc ?_ _) | (with_reducible refine Kd.C_drewN ?_ _) | (with_reducible refine Kd.C_drew ?_)))
     (case side6 => exact HC0_2.out)
     (case side7 => repeat (first | exact (Kd.C_below HR0_3.out HB.out) | (with_reducible refine Kd.C_alloc ?_ _) | (with_reducible refine Kd.C_drewN ?_ _) | (with_reducible refine Kd.C_drew ?_)))
     (case side8 => exact HC0_3.out)
     rintro e w63 ⟨rfl, hb⟩
     refine ⟨_, rfl, ?_⟩
     replace HO8 := Aside0.mk (Kd.R_below (rW HO8) hb)
     replace HO11 := Aside0.mk (Kd.R_below (rW HO11) hb)
     replace HO21 := Aside0.mk (Kd.R_below (rW HO21) hb)
     replace HO24 := Aside0.mk (Kd.R_below (rW HO24) hb)
     replace HO33 := Aside0.mk (Kd.R_below (rW HO33) hb)
     replace HO36 := Aside0.mk (Kd.R_below (rW HO36) hb)
     replace HO47 := Aside0.mk (Kd.R_below (rW HO47) hb)
     replace HO50 := Aside0.mk (Kd.R_below (rW HO50) hb)
     replace BK1 := bkB BK1 hb
     replace BK16 := bkB BK16 hb
     replace BK41 := bkB BK41 hb
     replace BK42 := bkB BK42 hb
     replace HB := hbS HB hb
     (try clear hb)
     refine hK.out _ _ (bk8 BK41 (bk8 BK1 (bl8 BK42))) (fun hHeld => ?_)
     clear hK K
     refine norm_ (a' := ?_) ?_ ?_
     rotate_left
     ·
      show Act.put _ (some 27) _ = _
      simp only [Act.put, List.setIfInBounds_toArray, List.set_cons_zero, List.set_cons_succ, i64_w, i32_w, IntKind.wrap_u32]
      rfl
     refine pure_ (i := 9) (N := some 28) (v := ?_) (a' := ?_) #[true, true, true, true, true, true, true, true, true, true, false] rfl rfl (any_of HT_.out (by kernel_rfl)) (fun _ _ _ h => h) (Or.inl ⟨by rfl, ?_⟩) ?_ ?_
     rotate_left
     ·
      intro w'
      go_simp
      with_reducible rfl
     rotate_left
     ·
      simp only [Act.put, List.setIfInBounds_toArray, List.set_cons_zero, List.set_cons_succ, i64_w, i32_w, IntKind.wrap_u32]
      rfl
     refine pure_ (i := 10) (N := some 29) (v := ?_) (a' := ?_) #[true, true, true, true, true, true, true, true, true, true, true] rfl rfl (any_of HT_.out (by kernel_rfl)) (fun _ _ _ h => h) (Or.inl ⟨by rfl, ?_⟩) ?_ ?_
     rotate_left
     ·
      intro w'
      go_simp
      with_reducible rfl
     rotate_left
     ·
      simp only [Act.put, List.setIfInBounds_toArray, List.set_cons_zero, List.set_cons_succ, i64_w, i32_w, IntKind.wrap_u32]
      rfl
     refine done_ (done_of HT_.out (by kernel_rfl)) ?_
     have hnb64 := NB41_1.out
     have hnc64 := NB1_41.out
     have hnb65 := NB41_16.out
     have hnc65 := NB16_41.out
     have hnb66 := NB41_42.out
     have hnc66 := NB42_41.out
     obtain ⟨hcz67_0, hcz67_1, hcz67_2, hcz67_3, hcz67_4, hcz67_5, hcz67_6, hcz67_7, hfz67_0, hfz67_1, hfz67_2, hfz67_3, hfz67_4, hfz67_5, hfz67_6, hfz67_7⟩ := bc8 BK41
     have hnb68 := NB42_1.out
     have hnc68 := NB1_42.out
     have hnb69 := NB42_16.out
     have hnc69 := NB16_42.out
     obtain ⟨hcz70_0, hcz70_1, hcz70_2, hcz70_3, hcz70_4, hcz70_5, hcz70_6, hcz70_7, hfz70_0, hfz70_1, hfz70_2, hfz70_3, hfz70_4, hfz70_5, hfz70_6, hfz70_7⟩ := bc8 BK42
     obtain ⟨hcz71_0, hcz71_1, hcz71_2, hcz71_3, hcz71_4, hcz71_5, hcz71_6, hcz71_7, hfz71_0, hfz71_1, hfz71_2, hfz71_3, hfz71_4, hfz71_5, hfz71_6, hfz71_7⟩ := bc8 BK16
     obtain ⟨hcz72_0, hcz72_1, hcz72_2, hcz72_3, hcz72_4, hcz72_5, hcz72_6, hcz72_7, hfz72_0, hfz72_1, hfz72_2, hfz72_3, hfz72_4, hfz72_5, hfz72_6, hfz72_7⟩ := bc8 BK1
     replace HO8 : Aside0 (Kd.R (Kd.int .u32) 33 w63 w.heap.size (fun k_ => some k_ ≠ (.slice Ao29 t9.length co29 : Value).ownBlock ∧ some k_ ≠ (.slice Ao39 t19.length co39 : Value).ownBlock ∧ some k_ ≠ (.slice Ao41 t22.length co41 : Value).ownBlock ∧ some k_ ≠ (.slice Ao49 t31.length co49 : Value).ownBlock ∧ some k_ ≠ (.slice Ao51 t34.length co51 : Value).ownBlock) (.slice Ao28 t6.length co28) t6) := ⟨Kd.R_mono HO8.out (fun _ hk => by and_intros <;> first | exact hk | exact hk.1 | exact hk.2 | exact hk.2.1 | exact hk.2.2 | exact hk.2.2.1 | exact hk.2.2.2 | exact hk.2.2.2.1 | exact hk.2.2.2.2 | exact hk.2.2.2.2.1 | exact hk.2.2.2.2.2 | exact hk.2.2.2.2.2.1 | exact hk.1 | exact hk.1.1 | exact hk.1.2 | exact hk.1.2.1 | exact hk.1.2.2 | exact hk.1.2.2.1 | exact hk.1.2.2.2 | exact hk.1.2.2.2.1 | exact hk.1.2.2.2.2 | exact hk.1.2.2.2.2.1 | exact hk.1.2.2.2.2.2 | exact hk.1.2.2.2.2.2.1 | exact hk.1.1 | exact hk.1.1.1 | exact hk.1.1.2 | exact hk.1.1.2.1 | exact hk.1.1.2.2 | exact hk.1.1.2.2.1 | exact hk.1.1.2.2.2 | exact hk.1.1.2.2.2.1 | exact hk.1.1.2.2.2.2 | exact hk.1.1.2.2.2.2.1 | exact hk.1.1.2.2.2.2.2 | exact hk.1.1.2.2.2.2.2.1 | exact hk.1.1.1 | exact hk.1.1.1.1 | exact hk.1.1.1.2 | exact hk.1.1.1.2.1 | exact hk.1.1.1.2.2 | exact hk.1.1.1.2.2.1 | exact hk.1.1.1.2.2.2 | exact hk.1.1.1.2.2.2.1 | exact hk.1.1.1.2.2.2.2 | exact hk.1.1.1.2.2.2.2.1 | exact hk.1.1.1.2.2.2.2.2 | exact hk.1.1.1.2.2.2.2.2.1)⟩
     replace HO11 : Aside0 (Kd.R (Kd.int .u32) 33 w63 w.heap.size (fun k_ => some k_ ≠ (.slice Ao28 t6.length co28 : Value).ownBlock ∧ some k_ ≠ (.slice Ao39 t19.length co39 : Value).ownBlock ∧ some k_ ≠ (.slice Ao41 t22.length co41 : Value).ownBlock ∧ some k_ ≠ (.slice Ao49 t31.length co49 : Value).ownBlock ∧ some k_ ≠ (.slice Ao51 t34.length co51 : Value).ownBlock) (.slice Ao29 t9.length co29) t9) := ⟨Kd.R_mono HO11.out (fun _ hk => by and_intros <;> first | exact hk | exact hk.1 | exact hk.2 | exact hk.2.1 | exact hk.2.2 | exact hk.2.2.1 | exact hk.2.2.2 | exact hk.2.2.2.1 | exact hk.2.2.2.2 | exact hk.2.2.2.2.1 | exact hk.2.2.2.2.2 | exact hk.2.2.2.2.2.1 | exact hk.1 | exact hk.1.1 | exact hk.1.2 | exact hk.1.2.1 | exact hk.1.2.2 | exact hk.1.2.2.1 | exact hk.1.2.2.2 | exact hk.1.2.2.2.1 | exact hk.1.2.2.2.2 | exact hk.1.2.2.2.2.1 | exact hk.1.2.2.2.2.2 | exact hk.1.2.2.2.2.2.1 | exact hk.1.1 | exact hk.1.1.1 | exact hk.1.1.2 | exact hk.1.1.2.1 | exact hk.1.1.2.2 | exact hk.1.1.2.2.1 | exact hk.1.1.2.2.2 | exact hk.1.1.2.2.2.1 | exact hk.1.1.2.2.2.2 | exact hk.1.1.2.2.2.2.1 | exact hk.1.1.2.2.2.2.2 | exact hk.1.1.2.2.2.2.2.1 | exact hk.1.1.1 | exact hk.1.1.1.1 | exact hk.1.1.1.2 | exact hk.1.1.1.2.1 | exact hk.1.1.1.2.2 | exact hk.1.1.1.2.2.1 | exact hk.1.1.1.2.2.2 | exact hk.1.1.1.2.2.2.1 | exact hk.1.1.1.2.2.2.2 | exact hk.1.1.1.2.2.2.2.1 | exact hk.1.1.1.2.2.2.2.2 | exact hk.1.1.1.2.2.2.2.2.1)⟩
     replace HO21 : Aside0 (Kd.R (Kd.int .u32) 33 w63 w.heap.size (fun k_ => some k_ ≠ (.slice Ao28 t6.length co28 : Value).ownBlock ∧ some k_ ≠ (.slice Ao29 t9.length co29 : Value).ownBlock ∧ some k_ ≠ (.slice Ao41 t22.length co41 : Value).ownBlock ∧ some k_ ≠ (.slice Ao49 t31.length co49 : Value).ownBlock ∧ some k_ ≠ (.slice Ao51 t34.length co51 : Value).ownBlock) (.slice Ao39 t19.length co39) t19) := ⟨Kd.R_mono HO21.out (fun _ hk => by and_intros <;> first | exact hk | exact hk.1 | exact hk.2 | exact hk.2.1 | exact hk.2.2 | exact hk.2.2.1 | exact hk.2.2.2 | exact hk.2.2.2.1 | exact hk.2.2.2.2 | exact hk.2.2.2.2.1 | exact hk.2.2.2.2.2 | exact hk.2.2.2.2.2.1 | exact hk.1 | exact hk.1.1 | exact hk.1.2 | exact hk.1.2.1 | exact hk.1.2.2 | exact hk.1.2.2.1 | exact hk.1.2.2.2 | exact hk.1.2.2.2.1 | exact hk.1.2.2.2.2 | exact hk.1.2.2.2.2.1 | exact hk.1.2.2.2.2.2 | exact hk.1.2.2.2.2.2.1 | exact hk.1.1 | exact hk.1.1.1 | exact hk.1.1.2 | exact hk.1.1.2.1 | exact hk.1.1.2.2 | exact hk.1.1.2.2.1 | exact hk.1.1.2.2.2 | exact hk.1.1.2.2.2.1 | exact hk.1.1.2.2.2.2 | exact hk.1.1.2.2.2.2.1 | exact hk.1.1.2.2.2.2.2 | exact hk.1.1.2.2.2.2.2.1 | exact hk.1.1.1 | exact hk.1.1.1.1 | exact hk.1.1.1.2 | exact hk.1.1.1.2.1 | exact hk.1.1.1.2.2 | exact hk.1.1.1.2.2.1 | exact hk.1.1.1.2.2.2 | exact hk.1.1.1.2.2.2.1 | exact hk.1.1.1.2.2.2.2 | exact hk.1.1.1.2.2.2.2.1 | exact hk.1.1.1.2.2.2.2.2 | exact hk.1.1.1.2.2.2.2.2.1)⟩
     replace HO24 : Aside0 (Kd.R (Kd.int .u32) 33 w63 w.heap.size (fun k_ => some k_ ≠ (.slice Ao28 t6.length co28 : Value).ownBlock ∧ some k_ ≠ (.slice Ao29 t9.length co29 : Value).ownBlock ∧ some k_ ≠ (.slice Ao39 t19.length co39 : Value).ownBlock ∧ some k_ ≠ (.slice Ao49 t31.length co49 : Value).ownBlock ∧ some k_ ≠ (.slice Ao51 t34.length co51 : Value).ownBlock) (.slice Ao41 t22.length co41) t22) := ⟨Kd.R_mono HO24.out (fun _ hk => by and_intros <;> first | exact hk | exact hk.1 | exact hk.2 | exact hk.2.1 | exact hk.2.2 | exact hk.2.2.1 | exact hk.2.2.2 | exact hk.2.2.2.1 | exact hk.2.2.2.2 | exact hk.2.2.2.2.1 | exact hk.2.2.2.2.2 | exact hk.2.2.2.2.2.1 | exact hk.1 | exact hk.1.1 | exact hk.1.2 | exact hk.1.2.1 | exact hk.1.2.2 | exact hk.1.2.2.1 | exact hk.1.2.2.2 | exact hk.1.2.2.2.1 | exact hk.1.2.2.2.2 | exact hk.1.2.2.2.2.1 | exact hk.1.2.2.2.2.2 | exact hk.1.2.2.2.2.2.1 | exact hk.1.1 | exact hk.1.1.1 | exact hk.1.1.2 | exact hk.1.1.2.1 | exact hk.1.1.2.2 | exact hk.1.1.2.2.1 | exact hk.1.1.2.2.2 | exact hk.1.1.2.2.2.1 | exact hk.1.1.2.2.2.2 | exact hk.1.1.2.2.2.2.1 | exact hk.1.1.2.2.2.2.2 | exact hk.1.1.2.2.2.2.2.1 | exact hk.1.1.1 | exact hk.1.1.1.1 | exact hk.1.1.1.2 | exact hk.1.1.1.2.1 | exact hk.1.1.1.2.2 | exact hk.1.1.1.2.2.1 | exact hk.1.1.1.2.2.2 | exact hk.1.1.1.2.2.2.1 | exact hk.1.1.1.2.2.2.2 | exact hk.1.1.1.2.2.2.2.1 | exact hk.1.1.1.2.2.2.2.2 | exact hk.1.1.1.2.2.2.2.2.1)⟩
     replace HO33 : Aside0 (Kd.R (Kd.int .u32) 33 w63 w.heap.size (fun k_ => some k_ ≠ (.slice Ao28 t6.length co28 : Value).ownBlock ∧ some k_ ≠ (.slice Ao29 t9.length co29 : Value).ownBlock ∧ some k_ ≠ (.slice Ao39 t19.length co39 : Value).ownBlock ∧ some k_ ≠ (.slice Ao41 t22.length co41 : Value).ownBlock ∧ some k_ ≠ (.slice Ao51 t34.length co51 : Value).ownBlock) (.slice Ao49 t31.length co49) t31) := ⟨Kd.R_mono HO33.out (fun _ hk => by and_intros <;> first | exact hk | exact hk.1 | exact hk.2 | exact hk.2.1 | exact hk.2.2 | exact hk.2.2.1 | exact hk.2.2.2 | exact hk.2.2.2.1 | exact hk.2.2.2.2 | exact hk.2.2.2.2.1 | exact hk.2.2.2.2.2 | exact hk.2.2.2.2.2.1 | exact hk.1 | exact hk.1.1 | exact hk.1.2 | exact hk.1.2.1 | exact hk.1.2.2 | exact hk.1.2.2.1 | exact hk.1.2.2.2 | exact hk.1.2.2.2.1 | exact hk.1.2.2.2.2 | exact hk.1.2.2.2.2.1 | exact hk.1.2.2.2.2.2 | exact hk.1.2.2.2.2.2.1 | exact hk.1.1 | exact hk.1.1.1 | exact hk.1.1.2 | exact hk.1.1.2.1 | exact hk.1.1.2.2 | exact hk.1.1.2.2.1 | exact hk.1.1.2.2.2 | exact hk.1.1.2.2.2.1 | exact hk.1.1.2.2.2.2 | exact hk.1.1.2.2.2.2.1 | exact hk.1.1.2.2.2.2.2 | exact hk.1.1.2.2.2.2.2.1 | exact hk.1.1.1 | exact hk.1.1.1.1 | exact hk.1.1.1.2 | exact hk.1.1.1.2.1 | exact hk.1.1.1.2.2 | exact hk.1.1.1.2.2.1 | exact hk.1.1.1.2.2.2 | exact hk.1.1.1.2.2.2.1 | exact hk.1.1.1.2.2.2.2 | exact hk.1.1.1.2.2.2.2.1 | exact hk.1.1.1.2.2.2.2.2 | exact hk.1.1.1.2.2.2.2.2.1)⟩
     replace HO36 : Aside0 (Kd.R (Kd.int .u32) 33 w63 w.heap.size (fun k_ => some k_ ≠ (.slice Ao28 t6.length co28 : Value).ownBlock ∧ some k_ ≠ (.slice Ao29 t9.length co29 : Value).ownBlock ∧ some k_ ≠ (.slice Ao39 t19.length co39 : Value).ownBlock ∧ some k_ ≠ (.slice Ao41 t22.length co41 : Value).ownBlock ∧ some k_ ≠ (.slice Ao49 t31.length co49 : Value).ownBlock) (.slice Ao51 t34.length co51) t34) := ⟨Kd.R_mono HO36.out (fun _ hk => by and_intros <;> first | exact hk | exact hk.1 | exact hk.2 | exact hk.2.1 | exact hk.2.2 | exact hk.2.2.1 | exact hk.2.2.2 | exact hk.2.2.2.1 | exact hk.2.2.2.2 | exact hk.2.2.2.2.1 | exact hk.2.2.2.2.2 | exact hk.2.2.2.2.2.1 | exact hk.1 | exact hk.1.1 | exact hk.1.2 | exact hk.1.2.1 | exact hk.1.2.2 | exact hk.1.2.2.1 | exact hk.1.2.2.2 | exact hk.1.2.2.2.1 | exact hk.1.2.2.2.2 | exact hk.1.2.2.2.2.1 | exact hk.1.2.2.2.2.2 | exact hk.1.2.2.2.2.2.1 | exact hk.1.1 | exact hk.1.1.1 | exact hk.1.1.2 | exact hk.1.1.2.1 | exact hk.1.1.2.2 | exact hk.1.1.2.2.1 | exact hk.1.1.2.2.2 | exact hk.1.1.2.2.2.1 | exact hk.1.1.2.2.2.2 | exact hk.1.1.2.2.2.2.1 | exact hk.1.1.2.2.2.2.2 | exact hk.1.1.2.2.2.2.2.1 | exact hk.1.1.1 | exact hk.1.1.1.1 | exact hk.1.1.1.2 | exact hk.1.1.1.2.1 | exact hk.1.1.1.2.2 | exact hk.1.1.1.2.2.1 | exact hk.1.1.1.2.2.2 | exact hk.1.1.1.2.2.2.1 | exact hk.1.1.1.2.2.2.2 | exact hk.1.1.1.2.2.2.2.1 | exact hk.1.1.1.2.2.2.2.2 | exact hk.1.1.1.2.2.2.2.2.1)⟩
     obtain ⟨wo, hwo⟩ : ∃ z, z = w63 := ⟨_, rfl⟩
     subst hwo
     go_upto_block 0 with (fail)
     clear hcz67_0 hcz67_1 hcz67_2 hcz67_3 hcz67_4 hcz67_5 hcz67_6 hcz67_7 hfz67_0 hfz67_1 hfz67_2 hfz67_3 hfz67_4 hfz67_5 hfz67_6 hfz67_7 hcz70_0 hcz70_1 hcz70_2 hcz70_3 hcz70_4 hcz70_5 hcz70_6 hcz70_7 hfz70_0 hfz70_1 hfz70_2 hfz70_3 hfz70_4 hfz70_5 hfz70_6 hfz70_7 hcz71_0 hcz71_1 hcz71_2 hcz71_3 hcz71_4 hcz71_5 hcz71_6 hcz71_7 hfz71_0 hfz71_1 hfz71_2 hfz71_3 hfz71_4 hfz71_5 hfz71_6 hfz71_7 hcz72_0 hcz72_1 hcz72_2 hcz72_3 hcz72_4 hcz72_5 hcz72_6 hcz72_7 hfz72_0 hfz72_1 hfz72_2 hfz72_3 hfz72_4 hfz72_5 hfz72_6 hfz72_7 hnb64 hnc64 hnb65 hnc65 hnb66 hnc66 hnb68 hnc68 hnb69 hnc69
     go_cut [] (fun wd => Aside0 (∃ y_ : List Int, y_.length = t19.length ∧ Kd.R (Kd.int .u32) 33 wd w.heap.size (fun k_ => some k_ ≠ (.slice Ao28 t6.length co28 : Value).ownBlock ∧ some k_ ≠ (.slice Ao29 t9.length co29 : Value).ownBlock ∧ some k_ ≠ (.slice Ao41 t22.length co41 : Value).ownBlock ∧ some k_ ≠ (.slice Ao49 t31.length co49 : Value).ownBlock ∧ some k_ ≠ (.slice Ao51 t34.length co51 : Value).ownBlock) (.slice Ao39 t19.length co39) y_) ∧ Aside0 (∃ y_ : List Int, y_.length = t22.length ∧ Kd.R (Kd.int .u32) 33 wd w.heap.size (fun k_ => some k_ ≠ (.slice Ao28 t6.length co28 : Value).ownBlock ∧ some k_ ≠ (.slice Ao29 t9.length co29 : Value).ownBlock ∧ some k_ ≠ (.slice Ao39 t19.length co39 : Value).ownBlock ∧ some k_ ≠ (.slice Ao49 t31.length co49 : Value).ownBlock ∧ some k_ ≠ (.slice Ao51 t34.length co51 : Value).ownBlock) (.slice Ao41 t22.length co41) y_) ∧ Aside0 (∃ y_ : List Int, y_.length = t31.length ∧ Kd.R (Kd.int .u32) 33 wd w.heap.size (fun k_ => some k_ ≠ (.slice Ao28 t6.length co28 : Value).ownBlock ∧ some k_ ≠ (.slice Ao29 t9.length co29 : Value).ownBlock ∧ some k_ ≠ (.slice Ao39 t19.length co39 : Value).ownBlock ∧ some k_ ≠ (.slice Ao41 t22.length co41 : Value).ownBlock ∧ some k_ ≠ (.slice Ao51 t34.length co51 : Value).ownBlock) (.slice Ao49 t31.length co49) y_) ∧ Aside0 (∃ y_ : List Int, y_.length = t34.length ∧ Kd.R (Kd.int .u32) 33 wd w.heap.size (fun k_ => some k_ ≠ (.slice Ao28 t6.length co28 : Value).ownBlock ∧ some k_ ≠ (.slice Ao29 t9.length co29 : Value).ownBlock ∧ some k_ ≠ (.slice Ao39 t19.length co39 : Value).ownBlock ∧ some k_ ≠ (.slice Ao41 t22.length co41 : Value).ownBlock ∧ some k_ ≠ (.slice Ao49 t31.length co49 : Value).ownBlock) (.slice Ao51 t34.length co51) y_) ∧ Aside0 (Kept wo wd (fun k_ : Nat => some k_ = (.slice Ao39 t19.length co39 : Value).ownBlock ∨ some k_ = (.slice Ao41 t22.length co41 : Value).ownBlock ∨ some k_ = (.slice Ao49 t31.length co49 : Value).ownBlock ∨ some k_ = (.slice Ao51 t34.length co51 : Value).ownBlock)) ∧ Aside0 (Below w.heap.size w wd))
     case first =>
      go_wp2
      go_loopg [39] 4 (fun kq v39 w' => ∃ (q_ : Int), v39 = .int .i64 q_ ∧ Aside0 (0 ≤ q_ ∧ q_ + kq = 4) ∧ Aside0 (∃ y_ : List Int, y_.length = t19.length ∧ Kd.R (Kd.int .u32) 33 w' w.heap.size (fun k_ => some k_ ≠ (.slice Ao28 t6.length co28 : Value).ownBlock ∧ some k_ ≠ (.slice Ao29 t9.length co29 : Value).ownBlock ∧ some k_ ≠ (.slice Ao41 t22.length co41 : Value).ownBlock ∧ some k_ ≠ (.slice Ao49 t31.length co49 : Value).ownBlock ∧ some k_ ≠ (.slice Ao51 t34.length co51 : Value).ownBlock) (.slice Ao39 t19.length co39) y_) ∧ Aside0 (∃ y_ : List Int, y_.length = t22.length ∧ Kd.R (Kd.int .u32) 33 w' w.heap.size (fun k_ => some k_ ≠ (.slice Ao28 t6.length co28 : Value).ownBlock ∧ some k_ ≠ (.slice Ao29 t9.length co29 : Value).ownBlock ∧ some k_ ≠ (.slice Ao39 t19.length co39 : Value).ownBlock ∧ some k_ ≠ (.slice Ao49 t31.length co49 : Value).ownBlock ∧ some k_ ≠ (.slice Ao51 t34.length co51 : Value).ownBlock) (.slice Ao41 t22.length co41) y_) ∧ Aside0 (∃ y_ : List Int, y_.length = t31.length ∧ Kd.R (Kd.int .u32) 33 w' w.heap.size (fun k_ => some k_ ≠ (.slice Ao28 t6.length co28 : Value).ownBlock ∧ some k_ ≠ (.slice Ao29 t9.length co29 : Value).ownBlock ∧ some k_ ≠ (.slice Ao39 t19.length co39 : Value).ownBlock ∧ some k_ ≠ (.slice Ao41 t22.length co41 : Value).ownBlock ∧ some k_ ≠ (.slice Ao51 t34.length co51 : Value).ownBlock) (.slice Ao49 t31.length co49) y_) ∧ Aside0 (∃ y_ : List Int, y_.length = t34.length ∧ Kd.R (Kd.int .u32) 33 w' w.heap.size (fun k_ => some k_ ≠ (.slice Ao28 t6.length co28 : Value).ownBlock ∧ some k_ ≠ (.slice Ao29 t9.length co29 : Value).ownBlock ∧ some k_ ≠ (.slice Ao39 t19.length co39 : Value).ownBlock ∧ some k_ ≠ (.slice Ao41 t22.length co41 : Value).ownBlock ∧ some k_ ≠ (.slice Ao49 t31.length co49 : Value).ownBlock) (.slice Ao51 t34.length co51) y_) ∧ Aside0 (Kept wo w' (fun k_ : Nat => some k_ = (.slice Ao39 t19.length co39 : Value).ownBlock ∨ some k_ = (.slice Ao41 t22.length co41 : Value).ownBlock ∨ some k_ = (.slice Ao49 t31.length co49 : Value).ownBlock ∨ some k_ = (.slice Ao51 t34.length co51 : Value).ownBlock)) ∧ Aside0 (Below w.heap.size w w'))
      case atStart => exact ⟨0, rfl, ⟨by omega, by omega⟩, ⟨_, rfl, HO21.out⟩, ⟨_, rfl, HO24.out⟩, ⟨_, rfl, HO33.out⟩, ⟨_, rfl, HO36.out⟩, ⟨Kept.refl _ _⟩, HB⟩
      case round =>
       clear HB HO21 HO24 HO33 HO36
       obtain ⟨q_, rfl, hq_, hA0, hA1, hA2, hA3, HK_, HB⟩ := hrel
       obtain ⟨hq0, hqn⟩ := hq_.out
       clear hq_
       by_cases cq : q_ < 4
       ·
        have cqb : decide (q_ < 4) = true := decide_eq_true cq
        obtain rfl | rfl | rfl | rfl : q_ = 0 ∨ q_ = 1 ∨ q_ = 2 ∨ q_ = 3 := by omega
        ·
         clear hq0 cq
         have hix : ∀ w_ : World, (Instr.index 56 (.agg #[.slice Ao39 t19.length co39, .slice Ao41 t22.length co41, .slice Ao49 t31.length co49, .slice Ao51 t34.length co51]) (.int .i64 0)).run Try.prog w_ = .ok (.slice Ao39 t19.length co39) w_ := fun w_ => by kernel_rfl
         go_wp2
         go_loopg [44] t19.length (fun kq v44 w' => ∃ (i_ : Int), v44 = .int .i64 i_ ∧ Aside0 (0 ≤ i_ ∧ i_ + kq = (t19.length : Int)) ∧ Aside0 (∃ y_ : List Int, y_.length = t19.length ∧ Kd.R (Kd.int .u32) 33 w' w.heap.size (fun k_ => some k_ ≠ (.slice Ao28 t6.length co28 : Value).ownBlock ∧ some k_ ≠ (.slice Ao29 t9.length co29 : Value).ownBlock ∧ some k_ ≠ (.slice Ao41 t22.length co41 : Value).ownBlock ∧ some k_ ≠ (.slice Ao49 t31.length co49 : Value).ownBlock ∧ some k_ ≠ (.slice Ao51 t34.length co51 : Value).ownBlock) (.slice Ao39 t19.length co39) y_) ∧ Aside0 (∃ y_ : List Int, y_.length = t22.length ∧ Kd.R (Kd.int .u32) 33 w' w.heap.size (fun k_ => some k_ ≠ (.slice Ao28 t6.length co28 : Value).ownBlock ∧ some k_ ≠ (.slice Ao29 t9.length co29 : Value).ownBlock ∧ some k_ ≠ (.slice Ao39 t19.length co39 : Value).ownBlock ∧ some k_ ≠ (.slice Ao49 t31.length co49 : Value).ownBlock ∧ some k_ ≠ (.slice Ao51 t34.length co51 : Value).ownBlock) (.slice Ao41 t22.length co41) y_) ∧ Aside0 (∃ y_ : List Int, y_.length = t31.length ∧ Kd.R (Kd.int .u32) 33 w' w.heap.size (fun k_ => some k_ ≠ (.slice Ao28 t6.length co28 : Value).ownBlock ∧ some k_ ≠ (.slice Ao29 t9.length co29 : Value).ownBlock ∧ some k_ ≠ (.slice Ao39 t19.length co39 : Value).ownBlock ∧ some k_ ≠ (.slice Ao41 t22.length co41 : Value).ownBlock ∧ some k_ ≠ (.slice Ao51 t34.length co51 : Value).ownBlock) (.slice Ao49 t31.length co49) y_) ∧ Aside0 (∃ y_ : List Int, y_.length = t34.length ∧ Kd.R (Kd.int .u32) 33 w' w.heap.size (fun k_ => some k_ ≠ (.slice Ao28 t6.length co28 : Value).ownBlock ∧ some k_ ≠ (.slice Ao29 t9.length co29 : Value).ownBlock ∧ some k_ ≠ (.slice Ao39 t19.length co39 : Value).ownBlock ∧ some k_ ≠ (.slice Ao41 t22.length co41 : Value).ownBlock ∧ some k_ ≠ (.slice Ao49 t31.length co49 : Value).ownBlock) (.slice Ao51 t34.length co51) y_) ∧ Aside0 (Kept wo w' (fun k_ : Nat => some k_ = (.slice Ao39 t19.length co39 : Value).ownBlock ∨ some k_ = (.slice Ao41 t22.length co41 : Value).ownBlock ∨ some k_ = (.slice Ao49 t31.length co49 : Value).ownBlock ∨ some k_ = (.slice Ao51 t34.length co51 : Value).ownBlock)) ∧ Aside0 (Below w.heap.size w w'))
         case atStart => exact ⟨0, rfl, ⟨by omega, by omega⟩, hA0, hA1, hA2, hA3, HK_, HB⟩
         case round =>
          clear HB HK_ hA0 hA1 hA2 hA3
          obtain ⟨i_, rfl, hi_, hA0, hA1, hA2, hA3, HK_, HB⟩ := hrel
          obtain ⟨hi0, hin⟩ := hi_.out
          clear hi_
          obtain ⟨y_, hyl, HR_⟩ := hA0.out
          by_cases ci : i_ < (t19.length : Int)
          ·
           have cib : decide (i_ < (t19.length : Int)) = true := decide_eq_true ci
           have hi0b : decide (0 ≤ i_) = true := decide_eq_true hi0
           have hmax := (Kd.R_reads' HR_).2.2.2.1
           have hwr := inc_wrap i_ _ hi0 ci (by omega)
           obtain ⟨ad_, ea_, hx_⟩ := Kd.at_int (Kd.R_reads' HR_).2.2 i_ hi0 (by rw [hyl]; exact ci)
           cases ea_
           obtain ⟨go_, cg_, eg_, gb_, gl_, cl_, HG_⟩ := Kd.R_form HR_ (by omega)
           (first | cases eg_ | (injection eg_ with e1_ e2_ e3_; (first | subst e1_ | (injection e1_ with e1_; subst e1_)); subst e3_; clear e2_))
           have GB_ := Aside0.mk gb_
           clear gb_ gl_ HG_
           (first | simp only [add_plain] at hx_ | skip)
           obtain ⟨hc_, hf_⟩ := Kd.R_celln 0 HR_ i_ hi0 ci
           have HP_ := Aside0.mk (Kd.R_putg HR_ i_ ((rd y_ i_ + 1) % 4294967296))
           have HRa := Aside0.mk HR_
           clear HR_ hA0
           have Ny := Aside0.mk hyl
           have Nw := Aside0.mk hwr
           have Nm := Aside0.mk hmax
           clear hyl hwr hmax
           have p_ := eq_true hi0
           have q_ := eq_true ci
           have Nq := Aside0.mk hqn
           have Nn := Aside0.mk hin
           clear hqn hin hi0 ci
           go_wp2_with (first | ((with_reducible refine gate_store (t := 33) (p := 54) rfl ?_); refine store_event (t := 33) (p := 54) (v := ?vo_) (w1 := (wr.setCell ⟨go_, i_.toNat, none⟩ (.int .u32 ((rd y_ i_ + 1) % 4294967296)))) ?hg ?ho ?hn ?hr ?_; (case ho => rfl); (case hg => rfl); (case hn => rfl); (case hr => first | (go_simp; done) | (go_simp; rfl)); intro w1_ hw_))
           subst hw_
           have hn_ := Nn.out
           have hq2_ := p_
           go_roundg (gk - 1)
           case measure => have := of_eq_true q_; omega
           case rel => exact ⟨i_ + 1, by first | rfl | (rw [← Nw.out]; rfl) | (simp [Nw.out]; done), ⟨by have := of_eq_true p_; omega, by have := of_eq_true q_; omega⟩, ⟨_, (inc_len _ _ _).trans Ny.out, HP_.out.1⟩, (by obtain ⟨y2_, hl2_, hr2_⟩ := hA1.out; exact ⟨y2_, hl2_, Kd.R_far hr2_ (p := ⟨go_, i_.toNat, none⟩) (fun k_ hk_ e_ => by subst e_; first | exact hk_ rfl | exact hk_.1 rfl | exact hk_.2 rfl | exact hk_.2.1 rfl | exact hk_.2.2 rfl | exact hk_.2.2.1 rfl | exact hk_.2.2.2 rfl | exact hk_.2.2.2.1 rfl | exact hk_.2.2.2.2 rfl | exact hk_.2.2.2.2.1 rfl | exact hk_.2.2.2.2.2 rfl) _⟩), (by obtain ⟨y2_, hl2_, hr2_⟩ := hA2.out; exact ⟨y2_, hl2_, Kd.R_far hr2_ (p := ⟨go_, i_.toNat, none⟩) (fun k_ hk_ e_ => by subst e_; first | exact hk_ rfl | exact hk_.1 rfl | exact hk_.2 rfl | exact hk_.2.1 rfl | exact hk_.2.2 rfl | exact hk_.2.2.1 rfl | exact hk_.2.2.2 rfl | exact hk_.2.2.2.1 rfl | exact hk_.2.2.2.2 rfl | exact hk_.2.2.2.2.1 rfl | exact hk_.2.2.2.2.2 rfl) _⟩), (by obtain ⟨y2_, hl2_, hr2_⟩ := hA3.out; exact ⟨y2_, hl2_, Kd.R_far hr2_ (p := ⟨go_, i_.toNat, none⟩) (fun k_ hk_ e_ => by subst e_; first | exact hk_ rfl | exact hk_.1 rfl | exact hk_.2 rfl | exact hk_.2.1 rfl | exact hk_.2.2 rfl | exact hk_.2.2.1 rfl | exact hk_.2.2.2 rfl | exact hk_.2.2.2.1 rfl | exact hk_.2.2.2.2 rfl | exact hk_.2.2.2.2.1 rfl | exact hk_.2.2.2.2.2 rfl) _⟩), ⟨Kept.setCell HK_.out (Or.inl (by simp [Value.ownBlock])) _⟩, ⟨below_set HB.out GB_.out⟩⟩
          ·
           have cib : decide (i_ < (t19.length : Int)) = false := decide_eq_false ci
           clear hin ci
           go_wp2
           go_roundg 3
           case measure => omega
           case rel => exact ⟨1, (by first | rfl | (simp; done)), ⟨by omega, by omega⟩, hA0, hA1, hA2, hA3, HK_, HB⟩
        ·
         clear hq0 cq
         have hix : ∀ w_ : World, (Instr.index 56 (.agg #[.slice Ao39 t19.length co39, .slice Ao41 t22.length co41, .slice Ao49 t31.length co49, .slice Ao51 t34.length co51]) (.int .i64 1)).run Try.prog w_ = .ok (.slice Ao41 t22.length co41) w_ := fun w_ => by kernel_rfl
         go_wp2
         go_loopg [44] t22.length (fun kq v44 w' => ∃ (i_ : Int), v44 = .int .i64 i_ ∧ Aside0 (0 ≤ i_ ∧ i_ + kq = (t22.length : Int)) ∧ Aside0 (∃ y_ : List Int, y_.length = t19.length ∧ Kd.R (Kd.int .u32) 33 w' w.heap.size (fun k_ => some k_ ≠ (.slice Ao28 t6.length co28 : Value).ownBlock ∧ some k_ ≠ (.slice Ao29 t9.length co29 : Value).ownBlock ∧ some k_ ≠ (.slice Ao41 t22.length co41 : Value).ownBlock ∧ some k_ ≠ (.slice Ao49 t31.length co49 : Value).ownBlock ∧ some k_ ≠ (.slice Ao51 t34.length co51 : Value).ownBlock) (.slice Ao39 t19.length co39) y_) ∧ Aside0 (∃ y_ : List Int, y_.length = t22.length ∧ Kd.R (Kd.int .u32) 33 w' w.heap.size (fun k_ => some k_ ≠ (.slice Ao28 t6.length co28 : Value).ownBlock ∧ some k_ ≠ (.slice Ao29 t9.length co29 : Value).ownBlock ∧ some k_ ≠ (.slice Ao39 t19.length co39 : Value).ownBlock ∧ some k_ ≠ (.slice Ao49 t31.length co49 : Value).ownBlock ∧ some k_ ≠ (.slice Ao51 t34.length co51 : Value).ownBlock) (.slice Ao41 t22.length co41) y_) ∧ Aside0 (∃ y_ : List Int, y_.length = t31.length ∧ Kd.R (Kd.int .u32) 33 w' w.heap.size (fun k_ => some k_ ≠ (.slice Ao28 t6.length co28 : Value).ownBlock ∧ some k_ ≠ (.slice Ao29 t9.length co29 : Value).ownBlock ∧ some k_ ≠ (.slice Ao39 t19.length co39 : Value).ownBlock ∧ some k_ ≠ (.slice Ao41 t22.length co41 : Value).ownBlock ∧ some k_ ≠ (.slice Ao51 t34.length co51 : Value).ownBlock) (.slice Ao49 t31.length co49) y_) ∧ Aside0 (∃ y_ : List Int, y_.length = t34.length ∧ Kd.R (Kd.int .u32) 33 w' w.heap.size (fun k_ => some k_ ≠ (.slice Ao28 t6.length co28 : Value).ownBlock ∧ some k_ ≠ (.slice Ao29 t9.length co29 : Value).ownBlock ∧ some k_ ≠ (.slice Ao39 t19.length co39 : Value).ownBlock ∧ some k_ ≠ (.slice Ao41 t22.length co41 : Value).ownBlock ∧ some k_ ≠ (.slice Ao49 t31.length co49 : Value).ownBlock) (.slice Ao51 t34.length co51) y_) ∧ Aside0 (Kept wo w' (fun k_ : Nat => some k_ = (.slice Ao39 t19.length co39 : Value).ownBlock ∨ some k_ = (.slice Ao41 t22.length co41 : Value).ownBlock ∨ some k_ = (.slice Ao49 t31.length co49 : Value).ownBlock ∨ some k_ = (.slice Ao51 t34.length co51 : Value).ownBlock)) ∧ Aside0 (Below w.heap.size w w'))
         case atStart => exact ⟨0, rfl, ⟨by omega, by omega⟩, hA0, hA1, hA2, hA3, HK_, HB⟩
         case round =>
          clear HB HK_ hA0 hA1 hA2 hA3
          obtain ⟨i_, rfl, hi_, hA0, hA1, hA2, hA3, HK_, HB⟩ := hrel
          obtain ⟨hi0, hin⟩ := hi_.out
          clear hi_
          obtain ⟨y_, hyl, HR_⟩ := hA1.out
          by_cases ci : i_ < (t22.length : Int)
          ·
           have cib : decide (i_ < (t22.length : Int)) = true := decide_eq_true ci
           have hi0b : decide (0 ≤ i_) = true := decide_eq_true hi0
           have hmax := (Kd.R_reads' HR_).2.2.2.1
           have hwr := inc_wrap i_ _ hi0 ci (by omega)
           obtain ⟨ad_, ea_, hx_⟩ := Kd.at_int (Kd.R_reads' HR_).2.2 i_ hi0 (by rw [hyl]; exact ci)
           cases ea_
           obtain ⟨go_, cg_, eg_, gb_, gl_, cl_, HG_⟩ := Kd.R_form HR_ (by omega)
           (first | cases eg_ | (injection eg_ with e1_ e2_ e3_; (first | subst e1_ | (injection e1_ with e1_; subst e1_)); subst e3_; clear e2_))
           have GB_ := Aside0.mk gb_
           clear gb_ gl_ HG_
           (first | simp only [add_plain] at hx_ | skip)
           obtain ⟨hc_, hf_⟩ := Kd.R_celln 0 HR_ i_ hi0 ci
           have HP_ := Aside0.mk (Kd.R_putg HR_ i_ ((rd y_ i_ + 1) % 4294967296))
           have HRa := Aside0.mk HR_
           clear HR_ hA1
           have Ny := Aside0.mk hyl
           have Nw := Aside0.mk hwr
           have Nm := Aside0.mk hmax
           clear hyl hwr hmax
           have p_ := eq_true hi0
           have q_ := eq_true ci
           have Nq := Aside0.mk hqn
           have Nn := Aside0.mk hin
           clear hqn hin hi0 ci
           go_wp2_with (first | ((with_reducible refine gate_store (t := 33) (p := 54) rfl ?_); refine store_event (t := 33) (p := 54) (v := ?vo_) (w1 := (wr.setCell ⟨go_, i_.toNat, none⟩ (.int .u32 ((rd y_ i_ + 1) % 4294967296)))) ?hg ?ho ?hn ?hr ?_; (case ho => rfl); (case hg => rfl); (case hn => rfl); (case hr => first | (go_simp; done) | (go_simp; rfl)); intro w1_ hw_))
           subst hw_
           have hn_ := Nn.out
           have hq2_ := p_
           go_roundg (gk - 1)
           case measure => have := of_eq_true q_; omega
           case rel => exact ⟨i_ + 1, by first | rfl | (rw [← Nw.out]; rfl) | (simp [Nw.out]; done), ⟨by have := of_eq_true p_; omega, by have := of_eq_true q_; omega⟩, (by obtain ⟨y2_, hl2_, hr2_⟩ := hA0.out; exact ⟨y2_, hl2_, Kd.R_far hr2_ (p := ⟨go_, i_.toNat, none⟩) (fun k_ hk_ e_ => by subst e_; first | exact hk_ rfl | exact hk_.1 rfl | exact hk_.2 rfl | exact hk_.2.1 rfl | exact hk_.2.2 rfl | exact hk_.2.2.1 rfl | exact hk_.2.2.2 rfl | exact hk_.2.2.2.1 rfl | exact hk_.2.2.2.2 rfl | exact hk_.2.2.2.2.1 rfl | exact hk_.2.2.2.2.2 rfl) _⟩), ⟨_, (inc_len _ _ _).trans Ny.out, HP_.out.1⟩, (by obtain ⟨y2_, hl2_, hr2_⟩ := hA2.out; exact ⟨y2_, hl2_, Kd.R_far hr2_ (p := ⟨go_, i_.toNat, none⟩) (fun k_ hk_ e_ => by subst e_; first | exact hk_ rfl | exact hk_.1 rfl | exact hk_.2 rfl | exact hk_.2.1 rfl | exact hk_.2.2 rfl | exact hk_.2.2.1 rfl | exact hk_.2.2.2 rfl | exact hk_.2.2.2.1 rfl | exact hk_.2.2.2.2 rfl | exact hk_.2.2.2.2.1 rfl | exact hk_.2.2.2.2.2 rfl) _⟩), (by obtain ⟨y2_, hl2_, hr2_⟩ := hA3.out; exact ⟨y2_, hl2_, Kd.R_far hr2_ (p := ⟨go_, i_.toNat, none⟩) (fun k_ hk_ e_ => by subst e_; first | exact hk_ rfl | exact hk_.1 rfl | exact hk_.2 rfl | exact hk_.2.1 rfl | exact hk_.2.2 rfl | exact hk_.2.2.1 rfl | exact hk_.2.2.2 rfl | exact hk_.2.2.2.1 rfl | exact hk_.2.2.2.2 rfl | exact hk_.2.2.2.2.1 rfl | exact hk_.2.2.2.2.2 rfl) _⟩), ⟨Kept.setCell HK_.out (Or.inl (by simp [Value.ownBlock])) _⟩, ⟨below_set HB.out GB_.out⟩⟩
          ·
           have cib : decide (i_ < (t22.length : Int)) = false := decide_eq_false ci
           clear hin ci
           go_wp2
           go_roundg 2
           case measure => omega
           case rel => exact ⟨2, (by first | rfl | (simp; done)), ⟨by omega, by omega⟩, hA0, hA1, hA2, hA3, HK_, HB⟩
        ·
         clear hq0 cq
         have hix : ∀ w_ : World, (Instr.index 56 (.agg #[.slice Ao39 t19.length co39, .slice Ao41 t22.length co41, .slice Ao49 t31.length co49, .slice Ao51 t34.length co51]) (.int .i64 2)).run Try.prog w_ = .ok (.slice Ao49 t31.length co49) w_ := fun w_ => by kernel_rfl
         go_wp2
         go_loopg [44] t31.length (fun kq v44 w' => ∃ (i_ : Int), v44 = .int .i64 i_ ∧ Aside0 (0 ≤ i_ ∧ i_ + kq = (t31.length : Int)) ∧ Aside0 (∃ y_ : List Int, y_.length = t19.length ∧ Kd.R (Kd.int .u32) 33 w' w.heap.size (fun k_ => some k_ ≠ (.slice Ao28 t6.length co28 : Value).ownBlock ∧ some k_ ≠ (.slice Ao29 t9.length co29 : Value).ownBlock ∧ some k_ ≠ (.slice Ao41 t22.length co41 : Value).ownBlock ∧ some k_ ≠ (.slice Ao49 t31.length co49 : Value).ownBlock ∧ some k_ ≠ (.slice Ao51 t34.length co51 : Value).ownBlock) (.slice Ao39 t19.length co39) y_) ∧ Aside0 (∃ y_ : List Int, y_.length = t22.length ∧ Kd.R (Kd.int .u32) 33 w' w.heap.size (fun k_ => some k_ ≠ (.slice Ao28 t6.length co28 : Value).ownBlock ∧ some k_ ≠ (.slice Ao29 t9.length co29 : Value).ownBlock ∧ some k_ ≠ (.slice Ao39 t19.length co39 : Value).ownBlock ∧ some k_ ≠ (.slice Ao49 t31.length co49 : Value).ownBlock ∧ some k_ ≠ (.slice Ao51 t34.length co51 : Value).ownBlock) (.slice Ao41 t22.length co41) y_) ∧ Aside0 (∃ y_ : List Int, y_.length = t31.length ∧ Kd.R (Kd.int .u32) 33 w' w.heap.size (fun k_ => some k_ ≠ (.slice Ao28 t6.length co28 : Value).ownBlock ∧ some k_ ≠ (.slice Ao29 t9.length co29 : Value).ownBlock ∧ some k_ ≠ (.slice Ao39 t19.length co39 : Value).ownBlock ∧ some k_ ≠ (.slice Ao41 t22.length co41 : Value).ownBlock ∧ some k_ ≠ (.slice Ao51 t34.length co51 : Value).ownBlock) (.slice Ao49 t31.length co49) y_) ∧ Aside0 (∃ y_ : List Int, y_.length = t34.length ∧ Kd.R (Kd.int .u32) 33 w' w.heap.size (fun k_ => some k_ ≠ (.slice Ao28 t6.length co28 : Value).ownBlock ∧ some k_ ≠ (.slice Ao29 t9.length co29 : Value).ownBlock ∧ some k_ ≠ (.slice Ao39 t19.length co39 : Value).ownBlock ∧ some k_ ≠ (.slice Ao41 t22.length co41 : Value).ownBlock ∧ some k_ ≠ (.slice Ao49 t31.length co49 : Value).ownBlock) (.slice Ao51 t34.length co51) y_) ∧ Aside0 (Kept wo w' (fun k_ : Nat => some k_ = (.slice Ao39 t19.length co39 : Value).ownBlock ∨ some k_ = (.slice Ao41 t22.length co41 : Value).ownBlock ∨ some k_ = (.slice Ao49 t31.length co49 : Value).ownBlock ∨ some k_ = (.slice Ao51 t34.length co51 : Value).ownBlock)) ∧ Aside0 (Below w.heap.size w w'))
         case atStart => exact ⟨0, rfl, ⟨by omega, by omega⟩, hA0, hA1, hA2, hA3, HK_, HB⟩
         case round =>
          clear HB HK_ hA0 hA1 hA2 hA3
          obtain ⟨i_, rfl, hi_, hA0, hA1, hA2, hA3, HK_, HB⟩ := hrel
          obtain ⟨hi0, hin⟩ := hi_.out
          clear hi_
          obtain ⟨y_, hyl, HR_⟩ := hA2.out
          by_cases ci : i_ < (t31.length : Int)
          ·
           have cib : decide (i_ < (t31.length : Int)) = true := decide_eq_true ci
           have hi0b : decide (0 ≤ i_) = true := decide_eq_true hi0
           have hmax := (Kd.R_reads' HR_).2.2.2.1
           have hwr := inc_wrap i_ _ hi0 ci (by omega)
           obtain ⟨ad_, ea_, hx_⟩ := Kd.at_int (Kd.R_reads' HR_).2.2 i_ hi0 (by rw [hyl]; exact ci)
           cases ea_
           obtain ⟨go_, cg_, eg_, gb_, gl_, cl_, HG_⟩ := Kd.R_form HR_ (by omega)
           (first | cases eg_ | (injection eg_ with e1_ e2_ e3_; (first | subst e1_ | (injection e1_ with e1_; subst e1_)); subst e3_; clear e2_))
           have GB_ := Aside0.mk gb_
           clear gb_ gl_ HG_
           (first | simp only [add_plain] at hx_ | skip)
           obtain ⟨hc_, hf_⟩ := Kd.R_celln 0 HR_ i_ hi0 ci
           have HP_ := Aside0.mk (Kd.R_putg HR_ i_ ((rd y_ i_ + 1) % 4294967296))
           have HRa := Aside0.mk HR_
           clear HR_ hA2
           have Ny := Aside0.mk hyl
           have Nw := Aside0.mk hwr
           have Nm := Aside0.mk hmax
           clear hyl hwr hmax
           have p_ := eq_true hi0
           have q_ := eq_true ci
           have Nq := Aside0.mk hqn
           have Nn := Aside0.mk hin
           clear hqn hin hi0 ci
           go_wp2_with (first | ((with_reducible refine gate_store (t := 33) (p := 54) rfl ?_); refine store_event (t := 33) (p := 54) (v := ?vo_) (w1 := (wr.setCell ⟨go_, i_.toNat, none⟩ (.int .u32 ((rd y_ i_ + 1) % 4294967296)))) ?hg ?ho ?hn ?hr ?_; (case ho => rfl); (case hg => rfl); (case hn => rfl); (case hr => first | (go_simp; done) | (go_simp; rfl)); intro w1_ hw_))
           subst hw_
           have hn_ := Nn.out
           have hq2_ := p_
           go_roundg (gk - 1)
           case measure => have := of_eq_true q_; omega
           case rel => exact ⟨i_ + 1, by first | rfl | (rw [← Nw.out]; rfl) | (simp [Nw.out]; done), ⟨by have := of_eq_true p_; omega, by have := of_eq_true q_; omega⟩, (by obtain ⟨y2_, hl2_, hr2_⟩ := hA0.out; exact ⟨y2_, hl2_, Kd.R_far hr2_ (p := ⟨go_, i_.toNat, none⟩) (fun k_ hk_ e_ => by subst e_; first | exact hk_ rfl | exact hk_.1 rfl | exact hk_.2 rfl | exact hk_.2.1 rfl | exact hk_.2.2 rfl | exact hk_.2.2.1 rfl | exact hk_.2.2.2 rfl | exact hk_.2.2.2.1 rfl | exact hk_.2.2.2.2 rfl | exact hk_.2.2.2.2.1 rfl | exact hk_.2.2.2.2.2 rfl) _⟩), (by obtain ⟨y2_, hl2_, hr2_⟩ := hA1.out; exact ⟨y2_, hl2_, Kd.R_far hr2_ (p := ⟨go_, i_.toNat, none⟩) (fun k_ hk_ e_ => by subst e_; first | exact hk_ rfl | exact hk_.1 rfl | exact hk_.2 rfl | exact hk_.2.1 rfl | exact hk_.2.2 rfl | exact hk_.2.2.1 rfl | exact hk_.2.2.2 rfl | exact hk_.2.2.2.1 rfl | exact hk_.2.2.2.2 rfl | exact hk_.2.2.2.2.1 rfl | exact hk_.2.2.2.2.2 rfl) _⟩), ⟨_, (inc_len _ _ _).trans Ny.out, HP_.out.1⟩, (by obtain ⟨y2_, hl2_, hr2_⟩ := hA3.out; exact ⟨y2_, hl2_, Kd.R_far hr2_ (p := ⟨go_, i_.toNat, none⟩) (fun k_ hk_ e_ => by subst e_; first | exact hk_ rfl | exact hk_.1 rfl | exact hk_.2 rfl | exact hk_.2.1 rfl | exact hk_.2.2 rfl | exact hk_.2.2.1 rfl | exact hk_.2.2.2 rfl | exact hk_.2.2.2.1 rfl | exact hk_.2.2.2.2 rfl | exact hk_.2.2.2.2.1 rfl | exact hk_.2.2.2.2.2 rfl) _⟩), ⟨Kept.setCell HK_.out (Or.inl (by simp [Value.ownBlock])) _⟩, ⟨below_set HB.out GB_.out⟩⟩
          ·
           have cib : decide (i_ < (t31.length : Int)) = false := decide_eq_false ci
           clear hin ci
           go_wp2
           go_roundg 1
           case measure => omega
           case rel => exact ⟨3, (by first | rfl | (simp; done)), ⟨by omega, by omega⟩, hA0, hA1, hA2, hA3, HK_, HB⟩
        ·
         clear hq0 cq
         have hix : ∀ w_ : World, (Instr.index 56 (.agg #[.slice Ao39 t19.length co39, .slice Ao41 t22.length co41, .slice Ao49 t31.length co49, .slice Ao51 t34.length co51]) (.int .i64 3)).run Try.prog w_ = .ok (.slice Ao51 t34.length co51) w_ := fun w_ => by kernel_rfl
         go_wp2
         go_loopg [44] t34.length (fun kq v44 w' => ∃ (i_ : Int), v44 = .int .i64 i_ ∧ Aside0 (0 ≤ i_ ∧ i_ + kq = (t34.length : Int)) ∧ Aside0 (∃ y_ : List Int, y_.length = t19.length ∧ Kd.R (Kd.int .u32) 33 w' w.heap.size (fun k_ => some k_ ≠ (.slice Ao28 t6.length co28 : Value).ownBlock ∧ some k_ ≠ (.slice Ao29 t9.length co29 : Value).ownBlock ∧ some k_ ≠ (.slice Ao41 t22.length co41 : Value).ownBlock ∧ some k_ ≠ (.slice Ao49 t31.length co49 : Value).ownBlock ∧ some k_ ≠ (.slice Ao51 t34.length co51 : Value).ownBlock) (.slice Ao39 t19.length co39) y_) ∧ Aside0 (∃ y_ : List Int, y_.length = t22.length ∧ Kd.R (Kd.int .u32) 33 w' w.heap.size (fun k_ => some k_ ≠ (.slice Ao28 t6.length co28 : Value).ownBlock ∧ some k_ ≠ (.slice Ao29 t9.length co29 : Value).ownBlock ∧ some k_ ≠ (.slice Ao39 t19.length co39 : Value).ownBlock ∧ some k_ ≠ (.slice Ao49 t31.length co49 : Value).ownBlock ∧ some k_ ≠ (.slice Ao51 t34.length co51 : Value).ownBlock) (.slice Ao41 t22.length co41) y_) ∧ Aside0 (∃ y_ : List Int, y_.length = t31.length ∧ Kd.R (Kd.int .u32) 33 w' w.heap.size (fun k_ => some k_ ≠ (.slice Ao28 t6.length co28 : Value).ownBlock ∧ some k_ ≠ (.slice Ao29 t9.length co29 : Value).ownBlock ∧ some k_ ≠ (.slice Ao39 t19.length co39 : Value).ownBlock ∧ some k_ ≠ (.slice Ao41 t22.length co41 : Value).ownBlock ∧ some k_ ≠ (.slice Ao51 t34.length co51 : Value).ownBlock) (.slice Ao49 t31.length co49) y_) ∧ Aside0 (∃ y_ : List Int, y_.length = t34.length ∧ Kd.R (Kd.int .u32) 33 w' w.heap.size (fun k_ => some k_ ≠ (.slice Ao28 t6.length co28 : Value).ownBlock ∧ some k_ ≠ (.slice Ao29 t9.length co29 : Value).ownBlock ∧ some k_ ≠ (.slice Ao39 t19.length co39 : Value).ownBlock ∧ some k_ ≠ (.slice Ao41 t22.length co41 : Value).ownBlock ∧ some k_ ≠ (.slice Ao49 t31.length co49 : Value).ownBlock) (.slice Ao51 t34.length co51) y_) ∧ Aside0 (Kept wo w' (fun k_ : Nat => some k_ = (.slice Ao39 t19.length co39 : Value).ownBlock ∨ some k_ = (.slice Ao41 t22.length co41 : Value).ownBlock ∨ some k_ = (.slice Ao49 t31.length co49 : Value).ownBlock ∨ some k_ = (.slice Ao51 t34.length co51 : Value).ownBlock)) ∧ Aside0 (Below w.heap.size w w'))
         case atStart => exact ⟨0, rfl, ⟨by omega, by omega⟩, hA0, hA1, hA2, hA3, HK_, HB⟩
         case round =>
          clear HB HK_ hA0 hA1 hA2 hA3
          obtain ⟨i_, rfl, hi_, hA0, hA1, hA2, hA3, HK_, HB⟩ := hrel
          obtain ⟨hi0, hin⟩ := hi_.out
          clear hi_
          obtain ⟨y_, hyl, HR_⟩ := hA3.out
          by_cases ci : i_ < (t34.length : Int)
          ·
           have cib : decide (i_ < (t34.length : Int)) = true := decide_eq_true ci
           have hi0b : decide (0 ≤ i_) = true := decide_eq_true hi0
           have hmax := (Kd.R_reads' HR_).2.2.2.1
           have hwr := inc_wrap i_ _ hi0 ci (by omega)
           obtain ⟨ad_, ea_, hx_⟩ := Kd.at_int (Kd.R_reads' HR_).2.2 i_ hi0 (by rw [hyl]; exact ci)
           cases ea_
           obtain ⟨go_, cg_, eg_, gb_, gl_, cl_, HG_⟩ := Kd.R_form HR_ (by omega)
           (first | cases eg_ | (injection eg_ with e1_ e2_ e3_; (first | subst e1_ | (injection e1_ with e1_; subst e1_)); subst e3_; clear e2_))
           have GB_ := Aside0.mk gb_
           clear gb_ gl_ HG_
           (first | simp only [add_plain] at hx_ | skip)
           obtain ⟨hc_, hf_⟩ := Kd.R_celln 0 HR_ i_ hi0 ci
           have HP_ := Aside0.mk (Kd.R_putg HR_ i_ ((rd y_ i_ + 1) % 4294967296))
           have HRa := Aside0.mk HR_
           clear HR_ hA3
           have Ny := Aside0.mk hyl
           have Nw := Aside0.mk hwr
           have Nm := Aside0.mk hmax
           clear hyl hwr hmax
           have p_ := eq_true hi0
           have q_ := eq_true ci
           have Nq := Aside0.mk hqn
           have Nn := Aside0.mk hin
           clear hqn hin hi0 ci
           go_wp2_with (first | ((with_reducible refine gate_store (t := 33) (p := 54) rfl ?_); refine store_event (t := 33) (p := 54) (v := ?vo_) (w1 := (wr.setCell ⟨go_, i_.toNat, none⟩ (.int .u32 ((rd y_ i_ + 1) % 4294967296)))) ?hg ?ho ?hn ?hr ?_; (case ho => rfl); (case hg => rfl); (case hn => rfl); (case hr => first | (go_simp; done) | (go_simp; rfl)); intro w1_ hw_))
           subst hw_
           have hn_ := Nn.out
           have hq2_ := p_
           go_roundg (gk - 1)
           case measure => have := of_eq_true q_; omega
           case rel => exact ⟨i_ + 1, by first | rfl | (rw [← Nw.out]; rfl) | (simp [Nw.out]; done), ⟨by have := of_eq_true p_; omega, by have := of_eq_true q_; omega⟩, (by obtain ⟨y2_, hl2_, hr2_⟩ := hA0.out; exact ⟨y2_, hl2_, Kd.R_far hr2_ (p := ⟨go_, i_.toNat, none⟩) (fun k_ hk_ e_ => by subst e_; first | exact hk_ rfl | exact hk_.1 rfl | exact hk_.2 rfl | exact hk_.2.1 rfl | exact hk_.2.2 rfl | exact hk_.2.2.1 rfl | exact hk_.2.2.2 rfl | exact hk_.2.2.2.1 rfl | exact hk_.2.2.2.2 rfl | exact hk_.2.2.2.2.1 rfl | exact hk_.2.2.2.2.2 rfl) _⟩), (by obtain ⟨y2_, hl2_, hr2_⟩ := hA1.out; exact ⟨y2_, hl2_, Kd.R_far hr2_ (p := ⟨go_, i_.toNat, none⟩) (fun k_ hk_ e_ => by subst e_; first | exact hk_ rfl | exact hk_.1 rfl | exact hk_.2 rfl | exact hk_.2.1 rfl | exact hk_.2.2 rfl | exact hk_.2.2.1 rfl | exact hk_.2.2.2 rfl | exact hk_.2.2.2.1 rfl | exact hk_.2.2.2.2 rfl | exact hk_.2.2.2.2.1 rfl | exact hk_.2.2.2.2.2 rfl) _⟩), (by obtain ⟨y2_, hl2_, hr2_⟩ := hA2.out; exact ⟨y2_, hl2_, Kd.R_far hr2_ (p := ⟨go_, i_.toNat, none⟩) (fun k_ hk_ e_ => by subst e_; first | exact hk_ rfl | exact hk_.1 rfl | exact hk_.2 rfl | exact hk_.2.1 rfl | exact hk_.2.2 rfl | exact hk_.2.2.1 rfl | exact hk_.2.2.2 rfl | exact hk_.2.2.2.1 rfl | exact hk_.2.2.2.2 rfl | exact hk_.2.2.2.2.1 rfl | exact hk_.2.2.2.2.2 rfl) _⟩), ⟨_, (inc_len _ _ _).trans Ny.out, HP_.out.1⟩, ⟨Kept.setCell HK_.out (Or.inl (by simp [Value.ownBlock])) _⟩, ⟨below_set HB.out GB_.out⟩⟩
          ·
           have cib : decide (i_ < (t34.length : Int)) = false := decide_eq_false ci
           clear hin ci
           go_wp2
           go_roundg 0
           case measure => omega
           case rel => exact ⟨4, (by first | rfl | (simp; done)), ⟨by omega, by omega⟩, hA0, hA1, hA2, hA3, HK_, HB⟩
       ·
        have cqb : decide (q_ < 4) = false := decide_eq_false cq
        clear cq hq0 hqn
        go_wp2
        go_meet
        case rel => exact ⟨hA0, hA1, hA2, hA3, HK_, HB⟩
     case rest =>
      have HK_ := hcut.2.2.2.2.1
      have HB2_ := hcut.2.2.2.2.2
      replace HO8 := Aside0.mk (Kd.R_kept HO8.out HK_.out (fun k_ hk_ hs_ => by rcases hs_ with e_ | e_ | e_ | e_ <;> first | exact hk_ e_ | exact hk_.1 e_ | exact hk_.2.1 e_ | exact hk_.2.2.1 e_ | exact hk_.2.2.2.1 e_ | exact hk_.2.2.2.2.1 e_ | exact hk_.2.2.2.2.2.1 e_ | exact hk_.2.2.2.2.2.2.1 e_ | exact hk_.2.2.2.2.2.2.2.1 e_ | exact hk_.2 e_ | exact hk_.2.2 e_ | exact hk_.2.2.2 e_ | exact hk_.2.2.2.2 e_ | exact hk_.2.2.2.2.2 e_ | exact hk_.2.2.2.2.2.2 e_ | exact hk_.2.2.2.2.2.2.2 e_ | exact hk_.2.2.2.2.2.2.2.2 e_))
      replace HO11 := Aside0.mk (Kd.R_kept HO11.out HK_.out (fun k_ hk_ hs_ => by rcases hs_ with e_ | e_ | e_ | e_ <;> first | exact hk_ e_ | exact hk_.1 e_ | exact hk_.2.1 e_ | exact hk_.2.2.1 e_ | exact hk_.2.2.2.1 e_ | exact hk_.2.2.2.2.1 e_ | exact hk_.2.2.2.2.2.1 e_ | exact hk_.2.2.2.2.2.2.1 e_ | exact hk_.2.2.2.2.2.2.2.1 e_ | exact hk_.2 e_ | exact hk_.2.2 e_ | exact hk_.2.2.2 e_ | exact hk_.2.2.2.2 e_ | exact hk_.2.2.2.2.2 e_ | exact hk_.2.2.2.2.2.2 e_ | exact hk_.2.2.2.2.2.2.2 e_ | exact hk_.2.2.2.2.2.2.2.2 e_))
      replace BK1 := Aside0.mk (blk_kept BK1.out HK_.out (fun hs_ => by rcases hs_ with e_ | e_ | e_ | e_ <;> first | exact inc_B BK1.out HO21.out (by decide) e_ | exact inc_B BK1.out HO24.out (by decide) e_ | exact inc_B BK1.out HO33.out (by decide) e_ | exact inc_B BK1.out HO36.out (by decide) e_))
      replace BK16 := Aside0.mk (blk_kept BK16.out HK_.out (fun hs_ => by rcases hs_ with e_ | e_ | e_ | e_ <;> first | exact inc_B BK16.out HO21.out (by decide) e_ | exact inc_B BK16.out HO24.out (by decide) e_ | exact inc_B BK16.out HO33.out (by decide) e_ | exact inc_B BK16.out HO36.out (by decide) e_))
      replace BK41 := Aside0.mk (blk_kept BK41.out HK_.out (fun hs_ => by rcases hs_ with e_ | e_ | e_ | e_ <;> first | exact inc_B BK41.out HO21.out (by decide) e_ | exact inc_B BK41.out HO24.out (by decide) e_ | exact inc_B BK41.out HO33.out (by decide) e_ | exact inc_B BK41.out HO36.out (by decide) e_))
      replace BK42 := Aside0.mk (blk_kept BK42.out HK_.out (fun hs_ => by rcases hs_ with e_ | e_ | e_ | e_ <;> first | exact inc_B BK42.out HO21.out (by decide) e_ | exact inc_B BK42.out HO24.out (by decide) e_ | exact inc_B BK42.out HO33.out (by decide) e_ | exact inc_B BK42.out HO36.out (by decide) e_))
      replace HB := HB2_
      clear hcut HK_ HB2_ HO21 HO24 HO33 HO36
      have hnb64 := NB41_1.out
      have hnc64 := NB1_41.out
      have hnb65 := NB41_16.out
      have hnc65 := NB16_41.out
      have hnb66 := NB41_42.out
      have hnc66 := NB42_41.out
      obtain ⟨hcz67_0, hcz67_1, hcz67_2, hcz67_3, hcz67_4, hcz67_5, hcz67_6, hcz67_7, hfz67_0, hfz67_1, hfz67_2, hfz67_3, hfz67_4, hfz67_5, hfz67_6, hfz67_7⟩ := bc8 BK41
      have hnb68 := NB42_1.out
      have hnc68 := NB1_42.out
      have hnb69 := NB42_16.out
      have hnc69 := NB16_42.out
      obtain ⟨hcz70_0, hcz70_1, hcz70_2, hcz70_3, hcz70_4, hcz70_5, hcz70_6, hcz70_7, hfz70_0, hfz70_1, hfz70_2, hfz70_3, hfz70_4, hfz70_5, hfz70_6, hfz70_7⟩ := bc8 BK42
      obtain ⟨hcz71_0, hcz71_1, hcz71_2, hcz71_3, hcz71_4, hcz71_5, hcz71_6, hcz71_7, hfz71_0, hfz71_1, hfz71_2, hfz71_3, hfz71_4, hfz71_5, hfz71_6, hfz71_7⟩ := bc8 BK16
      obtain ⟨hcz72_0, hcz72_1, hcz72_2, hcz72_3, hcz72_4, hcz72_5, hcz72_6, hcz72_7, hfz72_0, hfz72_1, hfz72_2, hfz72_3, hfz72_4, hfz72_5, hfz72_6, hfz72_7⟩ := bc8 BK1
      try go_wp2_with (first | ((with_reducible refine gate_callee (f := 38) rfl ?_); refine goesL_ (some 59) rfl rfl Try.func38 (by kernel_rfl) rfl #[.agg #[.int .u32 t4, .int .i64 t5, .slice Ao28 t6.length co28, .slice Ao29 t9.length co29, .int .u32 t12, .int .u32 t13, .int .i64 t14, .int .u32 t15], .agg #[.int .u32 a0_0, .int .i64 a0_1, .slice A0_2 l0_2.length c0_2, .slice A0_3 l0_3.length c0_3, .int .u32 a0_4, .int .u32 a0_5, .int .i64 a0_6, .int .u32 a0_7]] rfl (by (try simp only [List.map_toArray, List.map_cons, List.map_nil]); first | done | rfl | (simp only [List.length_drop, List.length_take]; rfl)) ?_; (with_reducible refine (q20z.calls k t4 t5 _ _ t6 _ _ t9 t12 t13 t14 t15 a0_0 a0_1 _ _ l0_2 _ _ l0_3 a0_4 a0_5 a0_6 a0_7 t57 _ ?side1 ?side2 ?side3 ?side4 ?side5 ?side6 ?side7 ?side8 A18.out).mono ?_); (case side1 => repeat (first | exact (Kd.R_reads' HO8.out).2.2 | (with_reducible refine Kd.C_alloc ?_ _) | (with_reducible refine Kd.C_drewN ?_ _) | (with_reducible refine Kd.C_drew ?_))); (case side2 => exact (Kd.R_reads' HO8.out).2.1); (case side3 => repeat (first | exact (Kd.R_reads' HO11.out).2.2 | (with_reducible refine Kd.C_alloc ?_ _) | (with_reducible refine Kd.C_drewN ?_ _) | (with_reducible refine Kd.C_drew ?_))); (case side4 => exact (Kd.R_reads' HO11.out).2.1); (case side5 => repeat (first | exact (Kd.C_below HR0_2.out HB.out) | (with_reducible refine Kd.C_alloc ?_ _) | (with_reducible refine Kd.C_drewN ?_ _) | (with_reducible refine Kd.C_drew ?_))); (case side6 => exact HC0_2.out); (case side7 => repeat (first | exact (Kd.C_below HR0_3.out HB.out) | (with_reducible refine Kd.C_alloc ?_ _) | (with_reducible refine Kd.C_drewN ?_ _) | (with_reducible refine Kd.C_drew ?_))); (case side8 => exact HC0_3.out); rintro e w73 ⟨rfl, hb⟩; refine ⟨_, rfl, ?_⟩; replace HO8 := Aside0.mk (Kd.R_below (rW HO8) hb); replace HO11 := Aside0.mk (Kd.R_below (rW HO11) hb); replace BK1 := bkB BK1 hb; replace BK16 := bkB BK16 hb; replace BK41 := bkB BK41 hb; replace BK42 := bkB BK42 hb; replace HB := hbS HB hb; (try clear hb)))
      go_ret
      exact ⟨by first | rfl | (simp [errW_none, errW_some] <;> rfl) | (simp [*, errW_none, errW_some] <;> rfl), hbW HB⟩
    ·
     rw [if_neg c17] at H
     have c17b0 : (t56 == 0) = false := beq_eq_false_iff_ne.mpr c17
     have c17b1 : (t56 != 0) = true := bne_iff_ne.mpr c17
     obtain rfl := Option.some.inj H
     refine start_ (n := 11) (S := fun w' => w'.cell? ⟨gb41, 0, none⟩ = some (.int .u32 t17) ∧ w'.cell? ⟨gb41, 1, none⟩ = some (.int .i64 t18) ∧ w'.cell? ⟨gb41, 2, none⟩ = some (.slice Ao39 t19.length co39) ∧ w'.cell? ⟨gb41, 3, none⟩ = some (.slice Ao41 t22.length co41) ∧ w'.cell? ⟨gb41, 4, none⟩ = some (.int .u32 t25) ∧ w'.cell? ⟨gb41, 5, none⟩ = some (.int .u32 t26) ∧ w'.cell? ⟨gb41, 6, none⟩ = some (.int .i64 t27) ∧ w'.cell? ⟨gb41, 7, none⟩ = some (.int .u32 t28) ∧ w'.cell? ⟨gb1, 0, none⟩ = some (.int .u32 a0_0) ∧ w'.cell? ⟨gb1, 1, none⟩ = some (.int .i64 a0_1) ∧ w'.cell? ⟨gb1, 2, none⟩ = some (.slice A0_2 l0_2.length c0_2) ∧ w'.cell? ⟨gb1, 3, none⟩ = some (.slice A0_3 l0_3.length c0_3) ∧ w'.cell? ⟨gb1, 4, none⟩ = some (.int .u32 a0_4) ∧ w'.cell? ⟨gb1, 5, none⟩ = some (.int .u32 a0_5) ∧ w'.cell? ⟨gb1, 6, none⟩ = some (.int .i64 a0_6) ∧ w'.cell? ⟨gb1, 7, none⟩ = some (.int .u32 a0_7) ∧ w'.cell? ⟨gb42, 0, none⟩ = some (.int .u32 t29) ∧ w'.cell? ⟨gb42, 1, none⟩ = some (.int .i64 t30) ∧ w'.cell? ⟨gb42, 2, none⟩ = some (.slice Ao49 t31.length co49) ∧ w'.cell? ⟨gb42, 3, none⟩ = some (.slice Ao51 t34.length co51) ∧ w'.cell? ⟨gb42, 4, none⟩ = some (.int .u32 t37) ∧ w'.cell? ⟨gb42, 5, none⟩ = some (.int .u32 t38) ∧ w'.cell? ⟨gb42, 6, none⟩ = some (.int .i64 t39) ∧ w'.cell? ⟨gb42, 7, none⟩ = some (.int .u32 t40)) (ds := []) #[false, false, false, false, false, false, false, false, false, false, false] (by kernel_rfl) rfl rfl (bk8 BK41 (bk8 BK1 (bl8 BK42))) (fun hHeld => ?_); refine with_tabW q24z.tab7 q24z.bits7 (fun HT_ HW_ => ?_)
     generalize w57.drew = w113 at HO8 HO11 HO21 HO24 HO33 HO36 BK1 BK16 BK41 BK42 HB hHeld ⊢
     refine take_ (i := 0) (N := some 19) (v := ?_) (a' := ?_) #[true, false, false, false, false, false, false, false, false, false, false] rfl rfl (take_ofW HT_.out HW_.out (by kernel_rfl)) (fun _ _ _ h => h) (Or.inl ⟨by rfl, ?_⟩) hHeld ?_ ?_
     rotate_left
     ·
      rintro w' ⟨s0, s1, s2, s3, s4, s5, s6, s7, s8, s9, s10, s11, s12, s13, s14, s15, s16, s17, s18, s19, s20, s21, s22, s23⟩
      go_simp
      with_reducible rfl
     rotate_left
     ·
      simp only [Act.put, List.setIfInBounds_toArray, List.set_cons_zero, List.set_cons_succ, i64_w, i32_w, IntKind.wrap_u32]
      rfl
     refine take_ (i := 1) (N := some 20) (v := ?_) (a' := ?_) #[true, true, false, false, false, false, false, false, false, false, false] rfl rfl (take_ofW HT_.out HW_.out (by kernel_rfl)) (fun _ _ _ h => h) (Or.inl ⟨by rfl, ?_⟩) hHeld ?_ ?_
     rotate_left
     ·
      rintro w' ⟨s0, s1, s2, s3, s4, s5, s6, s7, s8, s9, s10, s11, s12, s13, s14, s15, s16, s17, s18, s19, s20, s21, s22, s23⟩
      go_simp
      with_reducible rfl
     rotate_left
     ·
      simp only [Act.put, List.setIfInBounds_toArray, List.set_cons_zero, List.set_cons_succ, i64_w, i32_w, IntKind.wrap_u32]
      rfl
     refine one_ (i := 2) (N := some 21) #[true, true, true, false, false, false, false, false, false, false, false] rfl rfl (one_of HT_.out (by kernel_rfl)) (by decide) (fun K hK => ?_)
     refine goes_ Try.func39 (by kernel_rfl) rfl #[.agg #[.int .u32 a0_0, .int .i64 a0_1, .slice A0_2 l0_2.length c0_2, .slice A0_3 l0_3.length c0_3, .int .u32 a0_4, .int .u32 a0_5, .int .i64 a0_6, .int .u32 a0_7]] (by rfl) rfl rfl (by (try simp only [List.map_toArray, List.map_cons, List.map_nil]); first | done | rfl | (simp only [List.length_drop, List.length_take]; rfl)) ?_
     with_reducible refine (q23z.calls k a0_0 a0_1 _ _ l0_2 _ _ l0_3 a0_4 a0_5 a0_6 a0_7 t43 t44 t45 t48 t51 t52 t53 t54 _ ?side1 ?side2 ?side3 ?side4 A13.out).mono ?_
     (case side1 => repeat (first | exact (Kd.C_below HR0_2.out HB.out) | (with_reducible refine Kd.C_alloc ?_ _) | (with_reducible refine Kd.C_drewN ?_ _) | (with_reducible refine Kd.C_drew ?_)))
     (case side2 => exact HC0_2.out)
     (case side3 => repeat (first | exact (Kd.C_below HR0_3.out HB.out) | (with_reducible refine Kd.C_alloc ?_ _) | (with_reducible refine Kd.C_drewN ?_ _) | (with_reducible refine Kd.C_drew ?_)))
     (case side4 => exact HC0_3.out)
     rintro e w114 ⟨v46, v49, rfl, ho0, ho1, hb⟩
     refine ⟨_, rfl, ?_⟩
     have HO47 := Aside0.mk (Kd.R_lower (Kd.R_new' (Kd.R_new' (Kd.R_new' (Kd.R_new' (Kd.R_new' (Kd.R_new' ho0 (Kd.R_lt (rW HO8))) (Kd.R_lt (rW HO11))) (Kd.R_lt (rW HO21))) (Kd.R_lt (rW HO24))) (Kd.R_lt (rW HO33))) (Kd.R_lt (rW HO36))) (below_size (hbW HB)))
     have HO50 := Aside0.mk (Kd.R_lower (Kd.R_new' (Kd.R_new' (Kd.R_new' (Kd.R_new' (Kd.R_new' (Kd.R_new' ho1 (Kd.R_lt (rW HO8))) (Kd.R_lt (rW HO11))) (Kd.R_lt (rW HO21))) (Kd.R_lt (rW HO24))) (Kd.R_lt (rW HO33))) (Kd.R_lt (rW HO36))) (below_size (hbW HB)))
     replace HO8 := Aside0.mk (Kd.R_mono (Kd.R_told (Kd.R_told (Kd.R_old (rW HO8) hb) (Kd.R_base ho0)) (Kd.R_base ho1)) (fun _ h_ => h_.1))
     replace HO11 := Aside0.mk (Kd.R_mono (Kd.R_told (Kd.R_told (Kd.R_old (rW HO11) hb) (Kd.R_base ho0)) (Kd.R_base ho1)) (fun _ h_ => h_.1))
     replace HO21 := Aside0.mk (Kd.R_mono (Kd.R_told (Kd.R_told (Kd.R_old (rW HO21) hb) (Kd.R_base ho0)) (Kd.R_base ho1)) (fun _ h_ => h_.1))
     replace HO24 := Aside0.mk (Kd.R_mono (Kd.R_told (Kd.R_told (Kd.R_old (rW HO24) hb) (Kd.R_base ho0)) (Kd.R_base ho1)) (fun _ h_ => h_.1))
     replace HO33 := Aside0.mk (Kd.R_mono (Kd.R_told (Kd.R_told (Kd.R_old (rW HO33) hb) (Kd.R_base ho0)) (Kd.R_base ho1)) (fun _ h_ => h_.1))
     replace HO36 := Aside0.mk (Kd.R_mono (Kd.R_told (Kd.R_told (Kd.R_old (rW HO36) hb) (Kd.R_base ho0)) (Kd.R_base ho1)) (fun _ h_ => h_.1))
     replace BK1 := bkB BK1 hb
     replace BK16 := bkB BK16 hb
     replace BK41 := bkB BK41 hb
     replace BK42 := bkB BK42 hb
     replace HB := hbS HB hb
     (try clear hb)
     (try clear ho0)
     (try clear ho1)
     obtain ⟨Ao115, co115, eo115⟩ := Kd.R_slice HO47.out
     (first | subst eo115 | (injection eo115 with f1_ f2_ f3_; have f4_ := f1_.symm; have f5_ := f3_.symm; clear f1_ f2_ f3_; subst f4_; subst f5_))
     obtain ⟨Ao116, co116, eo116⟩ := Kd.R_slice HO50.out
     (first | subst eo116 | (injection eo116 with f1_ f2_ f3_; have f4_ := f1_.symm; have f5_ := f3_.symm; clear f1_ f2_ f3_; subst f4_; subst f5_))
     refine hK.out _ _ (bk8 BK41 (bk8 BK1 (bl8 BK42))) (fun hHeld => ?_)
     clear hK K
     refine norm_ (a' := ?_) ?_ ?_
     rotate_left
     ·
      show Act.put _ (some 21) _ = _
      simp only [Act.put, List.setIfInBounds_toArray, List.set_cons_zero, List.set_cons_succ, i64_w, i32_w, IntKind.wrap_u32]
      rfl
     refine one_ (i := 3) (N := some 22) #[true, true, true, true, false, false, false, false, false, false, false] rfl rfl (one_of HT_.out (by kernel_rfl)) (by decide) (fun K hK => ?_)
     refine goes_ Try.func38 (by kernel_rfl) rfl #[.agg #[.int .u32 t17, .int .i64 t18, .slice Ao39 t19.length co39, .slice Ao41 t22.length co41, .int .u32 t25, .int .u32 t26, .int .i64 t27, .int .u32 t28], .agg #[.int .u32 t43, .int .i64 t44, .slice Ao115 t45.length co115, .slice Ao116 t48.length co116, .int .u32 t51, .int .u32 t52, .int .i64 t53, .int .u32 t54]] (by rfl) rfl rfl (by (try simp only [List.map_toArray, List.map_cons, List.map_nil]); first | done | rfl | (simp only [List.length_drop, List.length_take]; rfl)) ?_
     with_reducible refine (q20z.calls k t17 t18 _ _ t19 _ _ t22 t25 t26 t27 t28 t43 t44 _ _ t45 _ _ t48 t51 t52 t53 t54 t55 _ ?side1 ?side2 ?side3 ?side4 ?side5 ?side6 ?side7 ?side8 A14.out).mono ?_
     (case side1 => repeat (first | exact (Kd.R_reads' HO21.out).2.2 | (with_reducible refine Kd.C_alloc ?_ _) | (with_reducible refine Kd.C_drewN ?_ _) | (with_reducible refine Kd.C_drew ?_)))
     (case side2 => exact (Kd.R_reads' HO21.out).2.1)
     (case side3 => repeat (first | exact (Kd.R_reads' HO24.out).2.2 | (with_reducible refine Kd.C_alloc ?_ _) | (with_reducible refine Kd.C_drewN ?_ _) | (with_reducible refine Kd.C_drew ?_)))
     (case side4 => exact (Kd.R_reads' HO24.out).2.1)
     (case side5 => repeat (first | exact (Kd.R_reads' HO47.out).2.2 | (with_reducible refine Kd.C_alloc ?_ _) | (with_reducible refine Kd.C_drewN ?_ _) | (with_reducible refine Kd.C_drew ?_)))
     (case side6 => exact (Kd.R_reads' HO47.out).2.1)
     (case side7 => repeat (first | exact (Kd.R_reads' HO50.out).2.2 | (with_reducible refine Kd.C_alloc ?_ _) | (with_reducible refine Kd.C_drewN ?_ _) | (with_reducible refine Kd.C_drew ?_)))
     (case side8 => exact (Kd.R_reads' HO50.out).2.1)
     rintro e w117 ⟨rfl, hb⟩
     refine ⟨_, rfl, ?_⟩
     replace HO8 := Aside0.mk (Kd.R_below (rW HO8) hb)
     replace HO11 := Aside0.mk (Kd.R_below (rW HO11) hb)
     replace HO21 := Aside0.mk (Kd.R_below (rW HO21) hb)
     replace HO24 := Aside0.mk (Kd.R_below (rW HO24) hb)
     replace HO33 := Aside0.mk (Kd.R_below (rW HO33) hb)
     replace HO36 := Aside0.mk (Kd.R_below (rW HO36) hb)
     replace HO47 := Aside0.mk (Kd.R_below (rW HO47) hb)
     replace HO50 := Aside0.mk (Kd.R_below (rW HO50) hb)
     replace BK1 := bkB BK1 hb
     replace BK16 := bkB BK16 hb
     replace BK41 := bkB BK41 hb
     replace BK42 := bkB BK42 hb
     replace HB := hbS HB hb
     (try clear hb)
     refine hK.out _ _ (bk8 BK41 (bk8 BK1 (bl8 BK42))) (fun hHeld => ?_)
     clear hK K
     refine norm_ (a' := ?_) ?_ ?_
     rotate_left
     ·
      show Act.put _ (some 22) _ = _
      simp only [Act.put, List.setIfInBounds_toArray, List.set_cons_zero, List.set_cons_succ, i64_w, i32_w, IntKind.wrap_u32]
      rfl
     refine pure_ (i := 4) (N := some 23) (v := ?_) (a' := ?_) #[true, true, true, true, true, false, false, false, false, false, false] rfl rfl (any_of HT_.out (by kernel_rfl)) (fun _ _ _ h => h) (Or.inl ⟨by rfl, ?_⟩) ?_ ?_
     rotate_left
     ·
      intro w'
      go_simp
      with_reducible rfl
     rotate_left
     ·
      simp only [Act.put, List.setIfInBounds_toArray, List.set_cons_zero, List.set_cons_succ, i64_w, i32_w, IntKind.wrap_u32]
      rfl
     refine pure_ (i := 5) (N := some 24) (v := ?_) (a' := ?_) #[true, true, true, true, true, true, false, false, false, false, false] rfl rfl (any_of HT_.out (by kernel_rfl)) (fun _ _ _ h => h) (Or.inl ⟨by rfl, ?_⟩) ?_ ?_
     rotate_left
     ·
      intro w'
      go_simp
      with_reducible rfl
     rotate_left
     ·
      simp only [Act.put, List.setIfInBounds_toArray, List.set_cons_zero, List.set_cons_succ, i64_w, i32_w, IntKind.wrap_u32]
      rfl
     refine take_ (i := 6) (N := some 25) (v := ?_) (a' := ?_) #[true, true, true, true, true, true, true, false, false, false, false] rfl rfl (take_ofW HT_.out HW_.out (by kernel_rfl)) (fun _ _ _ h => h) (Or.inl ⟨by rfl, ?_⟩) hHeld ?_ ?_
     rotate_left
     ·
      rintro w' ⟨s0, s1, s2, s3, s4, s5, s6, s7, s8, s9, s10, s11, s12, s13, s14, s15, s16, s17, s18, s19, s20, s21, s22, s23⟩
      go_simp
      with_reducible rfl
     rotate_left
     ·
      simp only [Act.put, List.setIfInBounds_toArray, List.set_cons_zero, List.set_cons_succ, i64_w, i32_w, IntKind.wrap_u32]
      rfl
     refine take_ (i := 7) (N := some 26) (v := ?_) (a' := ?_) #[true, true, true, true, true, true, true, true, false, false, false] rfl rfl (take_ofW HT_.out HW_.out (by kernel_rfl)) (fun _ _ _ h => h) (Or.inl ⟨by rfl, ?_⟩) hHeld ?_ ?_
     rotate_left
     ·
      rintro w' ⟨s0, s1, s2, s3, s4, s5, s6, s7, s8, s9, s10, s11, s12, s13, s14, s15, s16, s17, s18, s19, s20, s21, s22, s23⟩
      go_simp
      with_reducible rfl
     rotate_left
     ·
      simp only [Act.put, List.setIfInBounds_toArray, List.set_cons_zero, List.set_cons_succ, i64_w, i32_w, IntKind.wrap_u32]
      rfl
     refine one_ (i := 8) (N := some 27) #[true, true, true, true, true, true, true, true, true, false, false] rfl rfl (one_of HT_.out (by kernel_rfl)) (by decide) (fun K hK => ?_)
     refine goes_ Try.func38 (by kernel_rfl) rfl #[.agg #[.int .u32 t29, .int .i64 t30, .slice Ao49 t31.length co49, .slice Ao51 t34.length co51, .int .u32 t37, .int .u32 t38, .int .i64 t39, .int .u32 t40], .agg #[.int .u32 a0_0, .int .i64 a0_1, .slice A0_2 l0_2.length c0_2, .slice A0_3 l0_3.length c0_3, .int .u32 a0_4, .int .u32 a0_5, .int .i64 a0_6, .int .u32 a0_7]] (by rfl) rfl rfl (by (try simp only [List.map_toArray, List.map_cons, List.map_nil]); first | done | rfl | (simp only [List.length_drop, List.length_take]; rfl)) ?_
     with_reducible refine (q20z.calls k t29 t30 _ _ t31 _ _ t34 t37 t38 t39 t40 a0_0 a0_1 _ _ l0_2 _ _ l0_3 a0_4 a0_5 a0_6 a0_7 t56 _ ?side1 ?side2 ?side3 ?side4 ?side5 ?side6 ?side7 ?side8 A16.out).mono ?_
     (case side1 => repeat (first | exact (Kd.R_reads' HO33.out).2.2 | (with_reducible refine Kd.C_alloc ?_ _) | (with_reducible refine Kd.C_drewN ?_ _) | (with_reducible refine Kd.C_drew ?_)))
     (case side2 => exact (Kd.R_reads' HO33.out).2.1)
     (case side3 => repeat (first | exact (Kd.R_reads' HO36.out).2.2 | (with_reducible refine Kd.C_alloc ?_ _) | (with_reducible refine Kd.C_drewN ?_ _) | (with_reducible refine Kd.C_drew ?_)))
     (case side4 => exact (Kd.R_reads' HO36.out).2.1)
     (case side5 => repeat (first | exact (Kd.C_below HR0_2.out HB.out) | (with_reducible refine Kd.C_alloc ?_ _) | (with_reducible refine Kd.C_drewN ?_ _) | (with_reducible refine Kd.C_drew ?_)))
     (case side6 => exact HC0_2.out)
     (case side7 => repeat (first | exact (Kd.C_below HR0_3.out HB.out) | (with_reducible refine Kd.C_alloc ?_ _) | (with_reducible refine Kd.C_drewN ?_ _) | (with_reducible refine Kd.C_drew ?_)))
     (case side8 => exact HC0_3.out)
     rintro e w118 ⟨rfl, hb⟩
     refine ⟨_, rfl, ?_⟩
     replace HO8 := Aside0.mk (Kd.R_below (rW HO8) hb)
     replace HO11 := Aside0.mk (Kd.R_below (rW HO11) hb)
     replace HO21 := Aside0.mk (Kd.R_below (rW HO21) hb)
     replace HO24 := Aside0.mk (Kd.R_below (rW HO24) hb)
     replace HO33 := Aside0.mk (Kd.R_below (rW HO33) hb)
     replace HO36 := Aside0.mk (Kd.R_below (rW HO36) hb)
     replace HO47 := Aside0.mk (Kd.R_below (rW HO47) hb)
     replace HO50 := Aside0.mk (Kd.R_below (rW HO50) hb)
     replace BK1 := bkB BK1 hb
     replace BK16 := bkB BK16 hb
     replace BK41 := bkB BK41 hb
     replace BK42 := bkB BK42 hb
     replace HB := hbS HB hb
     (try clear hb)
     refine hK.out _ _ (bk8 BK41 (bk8 BK1 (bl8 BK42))) (fun hHeld => ?_)
     clear hK K
     refine norm_ (a' := ?_) ?_ ?_
     rotate_left
     ·
      show Act.put _ (some 27) _ = _
      simp only [Act.put, List.setIfInBounds_toArray, List.set_cons_zero, List.set_cons_succ, i64_w, i32_w, IntKind.wrap_u32]
      rfl
     refine pure_ (i := 9) (N := some 28) (v := ?_) (a' := ?_) #[true, true, true, true, true, true, true, true, true, true, false] rfl rfl (any_of HT_.out (by kernel_rfl)) (fun _ _ _ h => h) (Or.inl ⟨by rfl, ?_⟩) ?_ ?_
     rotate_left
     ·
      intro w'
      go_simp
      with_reducible rfl
     rotate_left
     ·
      simp only [Act.put, List.setIfInBounds_toArray, List.set_cons_zero, List.set_cons_succ, i64_w, i32_w, IntKind.wrap_u32]
      rfl
     refine pure_ (i := 10) (N := some 29) (v := ?_) (a' := ?_) #[true, true, true, true, true, true, true, true, true, true, true] rfl rfl (any_of HT_.out (by kernel_rfl)) (fun _ _ _ h => h) (Or.inl ⟨by rfl, ?_⟩) ?_ ?_
     rotate_left
     ·
      intro w'
      go_simp
      with_reducible rfl
     rotate_left
     ·
      simp only [Act.put, List.setIfInBounds_toArray, List.set_cons_zero, List.set_cons_succ, i64_w, i32_w, IntKind.wrap_u32]
      rfl
     refine done_ (done_of HT_.out (by kernel_rfl)) ?_
     try go_wp2
     go_ret
     exact ⟨by first | rfl | (simp [errW_none, errW_some] <;> rfl) | (simp [*, errW_none, errW_some] <;> rfl), hbW HB⟩
   ·
    rw [if_neg c15] at H
    have c15b0 : (t55 == 0) = false := beq_eq_false_iff_ne.mpr c15
    have c15b1 : (t55 != 0) = true := bne_iff_ne.mpr c15
    obtain rfl := Option.some.inj H
    refine start_ (n := 11) (S := fun w' => w'.cell? ⟨gb41, 0, none⟩ = some (.int .u32 t17) ∧ w'.cell? ⟨gb41, 1, none⟩ = some (.int .i64 t18) ∧ w'.cell? ⟨gb41, 2, none⟩ = some (.slice Ao39 t19.length co39) ∧ w'.cell? ⟨gb41, 3, none⟩ = some (.slice Ao41 t22.length co41) ∧ w'.cell? ⟨gb41, 4, none⟩ = some (.int .u32 t25) ∧ w'.cell? ⟨gb41, 5, none⟩ = some (.int .u32 t26) ∧ w'.cell? ⟨gb41, 6, none⟩ = some (.int .i64 t27) ∧ w'.cell? ⟨gb41, 7, none⟩ = some (.int .u32 t28) ∧ w'.cell? ⟨gb1, 0, none⟩ = some (.int .u32 a0_0) ∧ w'.cell? ⟨gb1, 1, none⟩ = some (.int .i64 a0_1) ∧ w'.cell? ⟨gb1, 2, none⟩ = some (.slice A0_2 l0_2.length c0_2) ∧ w'.cell? ⟨gb1, 3, none⟩ = some (.slice A0_3 l0_3.length c0_3) ∧ w'.cell? ⟨gb1, 4, none⟩ = some (.int .u32 a0_4) ∧ w'.cell? ⟨gb1, 5, none⟩ = some (.int .u32 a0_5) ∧ w'.cell? ⟨gb1, 6, none⟩ = some (.int .i64 a0_6) ∧ w'.cell? ⟨gb1, 7, none⟩ = some (.int .u32 a0_7)) (ds := []) #[false, false, false, false, false, false, false, false, false, false, false] (by kernel_rfl) rfl rfl (bk8 BK41 (bl8 BK1)) (fun hHeld => ?_); refine with_tabW q24z.tab7 q24z.bits7 (fun HT_ HW_ => ?_)
    generalize w57.drew = w158 at HO8 HO11 HO21 HO24 HO33 HO36 BK1 BK16 BK41 BK42 HB hHeld ⊢
    refine take_ (i := 0) (N := some 19) (v := ?_) (a' := ?_) #[true, false, false, false, false, false, false, false, false, false, false] rfl rfl (take_ofW HT_.out HW_.out (by kernel_rfl)) (fun _ _ _ h => h) (Or.inl ⟨by rfl, ?_⟩) hHeld ?_ ?_
    rotate_left
    ·
     rintro w' ⟨s0, s1, s2, s3, s4, s5, s6, s7, s8, s9, s10, s11, s12, s13, s14, s15⟩
     go_simp
     with_reducible rfl
    rotate_left
    ·
     simp only [Act.put, List.setIfInBounds_toArray, List.set_cons_zero, List.set_cons_succ, i64_w, i32_w, IntKind.wrap_u32]
     rfl
    refine take_ (i := 1) (N := some 20) (v := ?_) (a' := ?_) #[true, true, false, false, false, false, false, false, false, false, false] rfl rfl (take_ofW HT_.out HW_.out (by kernel_rfl)) (fun _ _ _ h => h) (Or.inl ⟨by rfl, ?_⟩) hHeld ?_ ?_
    rotate_left
    ·
     rintro w' ⟨s0, s1, s2, s3, s4, s5, s6, s7, s8, s9, s10, s11, s12, s13, s14, s15⟩
     go_simp
     with_reducible rfl
    rotate_left
    ·
     simp only [Act.put, List.setIfInBounds_toArray, List.set_cons_zero, List.set_cons_succ, i64_w, i32_w, IntKind.wrap_u32]
     rfl
    refine one_ (i := 2) (N := some 21) #[true, true, true, false, false, false, false, false, false, false, false] rfl rfl (one_of HT_.out (by kernel_rfl)) (by decide) (fun K hK => ?_)
    refine goes_ Try.func39 (by kernel_rfl) rfl #[.agg #[.int .u32 a0_0, .int .i64 a0_1, .slice A0_2 l0_2.length c0_2, .slice A0_3 l0_3.length c0_3, .int .u32 a0_4, .int .u32 a0_5, .int .i64 a0_6, .int .u32 a0_7]] (by rfl) rfl rfl (by (try simp only [List.map_toArray, List.map_cons, List.map_nil]); first | done | rfl | (simp only [List.length_drop, List.length_take]; rfl)) ?_
    with_reducible refine (q23z.calls k a0_0 a0_1 _ _ l0_2 _ _ l0_3 a0_4 a0_5 a0_6 a0_7 t43 t44 t45 t48 t51 t52 t53 t54 _ ?side1 ?side2 ?side3 ?side4 A13.out).mono ?_
    (case side1 => repeat (first | exact (Kd.C_below HR0_2.out HB.out) | (with_reducible refine Kd.C_alloc ?_ _) | (with_reducible refine Kd.C_drewN ?_ _) | (with_reducible refine Kd.C_drew ?_)))
    (case side2 => exact HC0_2.out)
    (case side3 => repeat (first | exact (Kd.C_below HR0_3.out HB.out) | (with_reducible refine Kd.C_alloc ?_ _) | (with_reducible refine Kd.C_drewN ?_ _) | (with_reducible refine Kd.C_drew ?_)))
    (case side4 => exact HC0_3.out)
    rintro e w159 ⟨v46, v49, rfl, ho0, ho1, hb⟩
    refine ⟨_, rfl, ?_⟩
    have HO47 := Aside0.mk (Kd.R_lower (Kd.R_new' (Kd.R_new' (Kd.R_new' (Kd.R_new' (Kd.R_new' (Kd.R_new' ho0 (Kd.R_lt (rW HO8))) (Kd.R_lt (rW HO11))) (Kd.R_lt (rW HO21))) (Kd.R_lt (rW HO24))) (Kd.R_lt (rW HO33))) (Kd.R_lt (rW HO36))) (below_size (hbW HB)))
    have HO50 := Aside0.mk (Kd.R_lower (Kd.R_new' (Kd.R_new' (Kd.R_new' (Kd.R_new' (Kd.R_new' (Kd.R_new' ho1 (Kd.R_lt (rW HO8))) (Kd.R_lt (rW HO11))) (Kd.R_lt (rW HO21))) (Kd.R_lt (rW HO24))) (Kd.R_lt (rW HO33))) (Kd.R_lt (rW HO36))) (below_size (hbW HB)))
    replace HO8 := Aside0.mk (Kd.R_mono (Kd.R_told (Kd.R_told (Kd.R_old (rW HO8) hb) (Kd.R_base ho0)) (Kd.R_base ho1)) (fun _ h_ => h_.1))
    replace HO11 := Aside0.mk (Kd.R_mono (Kd.R_told (Kd.R_told (Kd.R_old (rW HO11) hb) (Kd.R_base ho0)) (Kd.R_base ho1)) (fun _ h_ => h_.1))
    replace HO21 := Aside0.mk (Kd.R_mono (Kd.R_told (Kd.R_told (Kd.R_old (rW HO21) hb) (Kd.R_base ho0)) (Kd.R_base ho1)) (fun _ h_ => h_.1))
    replace HO24 := Aside0.mk (Kd.R_mono (Kd.R_told (Kd.R_told (Kd.R_old (rW HO24) hb) (Kd.R_base ho0)) (Kd.R_base ho1)) (fun _ h_ => h_.1))
    replace HO33 := Aside0.mk (Kd.R_mono (Kd.R_told (Kd.R_told (Kd.R_old (rW HO33) hb) (Kd.R_base ho0)) (Kd.R_base ho1)) (fun _ h_ => h_.1))
    replace HO36 := Aside0.mk (Kd.R_mono (Kd.R_told (Kd.R_told (Kd.R_old (rW HO36) hb) (Kd.R_base ho0)) (Kd.R_base ho1)) (fun _ h_ => h_.1))
    replace BK1 := bkB BK1 hb
    replace BK16 := bkB BK16 hb
    replace BK41 := bkB BK41 hb
    replace BK42 := bkB BK42 hb
    replace HB := hbS HB hb
    (try clear hb)
    (try clear ho0)
    (try clear ho1)
    obtain ⟨Ao160, co160, eo160⟩ := Kd.R_slice HO47.out
    (first | subst eo160 | (injection eo160 with f1_ f2_ f3_; have f4_ := f1_.symm; have f5_ := f3_.symm; clear f1_ f2_ f3_; subst f4_; subst f5_))
    obtain ⟨Ao161, co161, eo161⟩ := Kd.R_slice HO50.out
    (first | subst eo161 | (injection eo161 with f1_ f2_ f3_; have f4_ := f1_.symm; have f5_ := f3_.symm; clear f1_ f2_ f3_; subst f4_; subst f5_))
    refine hK.out _ _ (bk8 BK41 (bl8 BK1)) (fun hHeld => ?_)
    clear hK K
    refine norm_ (a' := ?_) ?_ ?_
    rotate_left
    ·
     show Act.put _ (some 21) _ = _
     simp only [Act.put, List.setIfInBounds_toArray, List.set_cons_zero, List.set_cons_succ, i64_w, i32_w, IntKind.wrap_u32]
     rfl
    refine one_ (i := 3) (N := some 22) #[true, true, true, true, false, false, false, false, false, false, false] rfl rfl (one_of HT_.out (by kernel_rfl)) (by decide) (fun K hK => ?_)
    refine goes_ Try.func38 (by kernel_rfl) rfl #[.agg #[.int .u32 t17, .int .i64 t18, .slice Ao39 t19.length co39, .slice Ao41 t22.length co41, .int .u32 t25, .int .u32 t26, .int .i64 t27, .int .u32 t28], .agg #[.int .u32 t43, .int .i64 t44, .slice Ao160 t45.length co160, .slice Ao161 t48.length co161, .int .u32 t51, .int .u32 t52, .int .i64 t53, .int .u32 t54]] (by rfl) rfl rfl (by (try simp only [List.map_toArray, List.map_cons, List.map_nil]); first | done | rfl | (simp only [List.length_drop, List.length_take]; rfl)) ?_
    with_reducible refine (q20z.calls k t17 t18 _ _ t19 _ _ t22 t25 t26 t27 t28 t43 t44 _ _ t45 _ _ t48 t51 t52 t53 t54 t55 _ ?side1 ?side2 ?side3 ?side4 ?side5 ?side6 ?side7 ?side8 A14.out).mono ?_
    (case side1 => repeat (first | exact (Kd.R_reads' HO21.out).2.2 | (with_reducible refine Kd.C_alloc ?_ _) | (with_reducible refine Kd.C_drewN ?_ _) | (with_reducible refine Kd.C_drew ?_)))
    (case side2 => exact (Kd.R_reads' HO21.out).2.1)
    (case side3 => repeat (first | exact (Kd.R_reads' HO24.out).2.2 | (with_reducible refine Kd.C_alloc ?_ _) | (with_reducible refine Kd.C_drewN ?_ _) | (with_reducible refine Kd.C_drew ?_)))
    (case side4 => exact (Kd.R_reads' HO24.out).2.1)
    (case side5 => repeat (first | exact (Kd.R_reads' HO47.out).2.2 | (with_reducible refine Kd.C_alloc ?_ _) | (with_reducible refine Kd.C_drewN ?_ _) | (with_reducible refine Kd.C_drew ?_)))
    (case side6 => exact (Kd.R_reads' HO47.out).2.1)
    (case side7 => repeat (first | exact (Kd.R_reads' HO50.out).2.2 | (with_reducible refine Kd.C_alloc ?_ _) | (with_reducible refine Kd.C_drewN ?_ _) | (with_reducible refine Kd.C_drew ?_)))
    (case side8 => exact (Kd.R_reads' HO50.out).2.1)
    rintro e w162 ⟨rfl, hb⟩
    refine ⟨_, rfl, ?_⟩
    replace HO8 := Aside0.mk (Kd.R_below (rW HO8) hb)
    replace HO11 := Aside0.mk (Kd.R_below (rW HO11) hb)
    replace HO21 := Aside0.mk (Kd.R_below (rW HO21) hb)
    replace HO24 := Aside0.mk (Kd.R_below (rW HO24) hb)
    replace HO33 := Aside0.mk (Kd.R_below (rW HO33) hb)
    replace HO36 := Aside0.mk (Kd.R_below (rW HO36) hb)
    replace HO47 := Aside0.mk (Kd.R_below (rW HO47) hb)
    replace HO50 := Aside0.mk (Kd.R_below (rW HO50) hb)
    replace BK1 := bkB BK1 hb
    replace BK16 := bkB BK16 hb
    replace BK41 := bkB BK41 hb
    replace BK42 := bkB BK42 hb
    replace HB := hbS HB hb
    (try clear hb)
    refine hK.out _ _ (bk8 BK41 (bl8 BK1)) (fun hHeld => ?_)
    clear hK K
    refine norm_ (a' := ?_) ?_ ?_
    rotate_left
    ·
     show Act.put _ (some 22) _ = _
     simp only [Act.put, List.setIfInBounds_toArray, List.set_cons_zero, List.set_cons_succ, i64_w, i32_w, IntKind.wrap_u32]
     rfl
    refine pure_ (i := 4) (N := some 23) (v := ?_) (a' := ?_) #[true, true, true, true, true, false, false, false, false, false, false] rfl rfl (any_of HT_.out (by kernel_rfl)) (fun _ _ _ h => h) (Or.inl ⟨by rfl, ?_⟩) ?_ ?_
    rotate_left
    ·
     intro w'
     go_simp
     with_reducible rfl
    rotate_left
    ·
     simp only [Act.put, List.setIfInBounds_toArray, List.set_cons_zero, List.set_cons_succ, i64_w, i32_w, IntKind.wrap_u32]
     rfl
    refine pure_ (i := 5) (N := some 24) (v := ?_) (a' := ?_) #[true, true, true, true, true, true, false, false, false, false, false] rfl rfl (any_of HT_.out (by kernel_rfl)) (fun _ _ _ h => h) (Or.inl ⟨by rfl, ?_⟩) ?_ ?_
    rotate_left
    ·
     intro w'
     go_simp
     with_reducible rfl
    rotate_left
    ·
     simp only [Act.put, List.setIfInBounds_toArray, List.set_cons_zero, List.set_cons_succ, i64_w, i32_w, IntKind.wrap_u32]
     rfl
    refine pure_ (i := 6) (N := some 25) (v := undef) (a' := ?_) #[true, true, true, true, true, true, true, false, false, false, false] rfl rfl (any_of HT_.out (by kernel_rfl)) (fun _ _ _ h => h) (Or.inr ⟨by rfl, rfl⟩) ?_ ?_
    rotate_left
    ·
     simp only [Act.put, List.setIfInBounds_toArray, List.set_cons_zero, List.set_cons_succ, i64_w, i32_w, IntKind.wrap_u32]
     rfl
    refine pure_ (i := 7) (N := some 26) (v := undef) (a' := ?_) #[true, true, true, true, true, true, true, true, false, false, false] rfl rfl (any_of HT_.out (by kernel_rfl)) (fun _ _ _ h => h) (Or.inr ⟨by rfl, rfl⟩) ?_ ?_
    rotate_left
    ·
     simp only [Act.put, List.setIfInBounds_toArray, List.set_cons_zero, List.set_cons_succ, i64_w, i32_w, IntKind.wrap_u32]
     rfl
    refine pure_ (i := 8) (N := some 27) (v := undef) (a' := ?_) #[true, true, true, true, true, true, true, true, true, false, false] rfl rfl (any_of HT_.out (by kernel_rfl)) (fun _ _ _ h => h) (Or.inr ⟨by rfl, rfl⟩) ?_ ?_
    rotate_left
    ·
     simp only [Act.put, List.setIfInBounds_toArray, List.set_cons_zero, List.set_cons_succ, i64_w, i32_w, IntKind.wrap_u32]
     rfl
    refine pure_ (i := 9) (N := some 28) (v := undef) (a' := ?_) #[true, true, true, true, true, true, true, true, true, true, false] rfl rfl (any_of HT_.out (by kernel_rfl)) (fun _ _ _ h => h) (Or.inr ⟨by rfl, rfl⟩) ?_ ?_
    rotate_left
    ·
     simp only [Act.put, List.setIfInBounds_toArray, List.set_cons_zero, List.set_cons_succ, i64_w, i32_w, IntKind.wrap_u32]
     rfl
    refine pure_ (i := 10) (N := some 29) (v := ?_) (a' := ?_) #[true, true, true, true, true, true, true, true, true, true, true] rfl rfl (any_of HT_.out (by kernel_rfl)) (fun _ _ _ h => h) (Or.inl ⟨by rfl, ?_⟩) ?_ ?_
    rotate_left
    ·
     intro w'
     go_simp
     with_reducible rfl
    rotate_left
    ·
     simp only [Act.put, List.setIfInBounds_toArray, List.set_cons_zero, List.set_cons_succ, i64_w, i32_w, IntKind.wrap_u32]
     rfl
    refine done_ (done_of HT_.out (by kernel_rfl)) ?_
    try go_wp2
    go_ret
    exact ⟨by first | rfl | (simp [errW_none, errW_some] <;> rfl) | (simp [*, errW_none, errW_some] <;> rfl), hbW HB⟩
 ·
  replace c3 := Bool.eq_false_iff.mpr c3
  subst c3
  have H1 : (some false) = some r := by rw [if_neg (show ¬ (false = true) by decide)] at H; exact H
  clear H
  have H := H1
  clear H1
  obtain rfl := Option.some.inj H
  go_enter Try.func7, Try.ntmps7
  go_wp2_with (first | ((with_reducible refine gate_dst (N := 1) rfl ?_); refine box_event ?hg (N := 1) ?hd (cs := #[.int .u32 a0_0, .int .i64 a0_1, .slice A0_2 l0_2.length c0_2, .slice A0_3 l0_3.length c0_3, .int .u32 a0_4, .int .u32 a0_5, .int .i64 a0_6, .int .u32 a0_7]) (t := 38) ?hr ?_; (case hd => rfl); (case hg => rfl); (case hr => first | (go_simp; done) | (go_simp; rfl)); intro gb1 hg w163 hbox hb; have BK1 := Aside0.mk (hbox); have GW1 := gwS hg HB; have GE1 := gwS hg HB; replace HB := hbS HB hb; clear hb hbox hg) | ((with_reducible refine gate_callee (f := 29) rfl ?_); refine goesL_ (some 9) rfl rfl Try.func29 (by kernel_rfl) rfl #[] rfl (by (try simp only [List.map_toArray, List.map_cons, List.map_nil]); first | done | rfl | (simp only [List.length_drop, List.length_take]; rfl)) ?_; (with_reducible refine (q15z.calls k  false _ A2.out).mono ?_); rintro e w164 ⟨rfl, hb⟩; refine ⟨_, rfl, ?_⟩; replace BK1 := bkB BK1 hb; replace HB := hbS HB hb; (try clear hb)))
  go_ret
  exact ⟨by first | rfl | (simp [errW_none, errW_some] <;> rfl) | (simp [*, errW_none, errW_some] <;> rfl), hbW HB⟩

end Go.Proofs.Ythekledcoeeheaa.P
