/- Part of the proof of the law SpanLaws: the functions that it reaches, by contract. -/
import Derived.Deep.Slices
import Derived.Test.YtconaifcjnpabaaCSpanLaws0
import Derived.Test.YtconaifcjnpabaaCSpanLaws1
namespace Go.Proofs.Ytconaifcjnpabaa.P
open Go.RowKit Go.Proofs.YtconaifcjnpabaaW.PrintWords Go.Proofs.YtconaifcjnpabaaW.PrintLast Go.Proofs.YtconaifcjnpabaaW.PrintMore
attribute [local go_sem] max2_int min2_int max_two min_two max_three min_three max_four min_four
set_option linter.unusedVariables false
set_option linter.unusedSimpArgs false

attribute [local go_sem high] eqA33
/-! ### dragomanlaw01_SpanLaws: function 7 -/
mutual
def q11z.j0 : Nat → List (S33) → List (S33) → Int → Bool → Option (Bool)
 | 0, _, _, _, _ => none
 | k + 1, x0, x1, x2, x18 => if x18 = true then (some true) else ((q1z.f k x0).bind fun t411 => ((q1z.f k x1).bind fun t414 => ((q4z.f k x0).bind fun t417 => ((q4z.f k t417).bind fun t420 => ((q2z.f k t420 t411).bind fun t423 => (if t423 = true then ((q3z.f k x0 x1).bind fun t424 => ((q4z.f k x0).bind fun t427 => ((q4z.f k x1).bind fun t430 => ((span_Union.f k t427 t430).bind fun t433 => ((q4z.f k t433).bind fun t436 => ((q2z.f k t424 t436).bind fun t439 => (if t439 = true then ((q4z.f k x0).bind fun t440 => ((q3z.f k x0 t440).bind fun t443 => (q11z.j1 k x0 x1 x2 t411 t414 ((t443.length : Int) != 0)))) else (q11z.j1 k x0 x1 x2 t411 t414 true)))))))) else (q11z.j1 k x0 x1 x2 t411 t414 true)))))))
def q11z.j1 : Nat → List (S33) → List (S33) → Int → List (S33) → List (S33) → Bool → Option (Bool)
 | 0, _, _, _, _, _, _ => none
 | k + 1, x0, x1, x2, x7, x8, x49 => if x49 = true then (some false) else ((q4z.f k x0).bind fun t446 => ((span_Union.f k x0 t446).bind fun t449 => ((span_Union.f k x7 x8).bind fun t452 => (if (t449.length : Int) = 1 then (if 0 < (t449.length : Int) then (if (((rd_T33 t449 0).f0) == 0 && (((rd_T33 t449 0).f1) == 4294967295)) = true then ((span_Union.f k x1 x0).bind fun t456 => ((q2z.f k t452 t456).bind fun t459 => (if t459 = true then ((span_In.f t452 x2).bind fun t460 => ((span_In.f x0 x2).bind fun t461 => (if t461 = true then (if (t460 == true) = true then ((q1z.f k t452).bind fun t462 => ((q2z.f k t462 t452).bind fun t465 => (some t465))) else (some false)) else ((span_In.f x1 x2).bind fun t466 => (if (t460 == t466) = true then ((q1z.f k t452).bind fun t467 => ((q2z.f k t467 t452).bind fun t470 => (some t470))) else (some false)))))) else (some false)))) else (some false)) else (none)) else (some false)))))
end
def q11z.f (k : Nat) (l0 : List (S33)) (l1 : List (S33)) (a2 : Int) : Option (Bool) := (q9z.f k).bind fun t408 => (if t408 = true then ((q10z.f l0).bind fun t409 => (if t409 = true then (q11z.j0 k l0 l1 a2 true) else ((q10z.f l1).bind fun t410 => (q11z.j0 k l0 l1 a2 t410)))) else (some false))
theorem q11z.mono_l : ∀ k, (∀ y0 y1 y2 y3, LeO (q11z.j0 k y0 y1 y2 y3) (q11z.j0 (k + 1) y0 y1 y2 y3)) ∧ (∀ y0 y1 y2 y3 y4 y5, LeO (q11z.j1 k y0 y1 y2 y3 y4 y5) (q11z.j1 (k + 1) y0 y1 y2 y3 y4 y5))
 | 0 => ⟨fun _ _ _ _ r h => by simp [q11z.j0] at h, fun _ _ _ _ _ _ r h => by simp [q11z.j1] at h⟩
 | k + 1 => by
  obtain ⟨ih0, ih1⟩ := q11z.mono_l k
  refine ⟨?_, ?_⟩
  ·
   intro y0 y1 y2 y3
   unfold q11z.j0
   repeat' first
   | (with_reducible exact ih0 _ _ _ _)
   | (with_reducible exact ih1 _ _ _ _ _ _)
   | (with_reducible exact q9z.mono _)
   | (with_reducible exact q2z.mono _ _ _)
   | (with_reducible exact q3z.mono _ _ _)
   | (with_reducible exact q1z.mono _ _)
   | (with_reducible exact q4z.mono _ _)
   | (with_reducible exact span_Union.mono _ _ _)
   | (with_reducible exact LeO.refl _)
   | (with_reducible exact LeO.none _)
   | (with_reducible refine LeO.ite ?_ ?_)
   | (with_reducible refine LeO.bind ?_ (fun _ => ?_))
   | exact ih0 _ _ _ _
   | exact ih1 _ _ _ _ _ _
   | exact q9z.mono _
   | exact q2z.mono _ _ _
   | exact q3z.mono _ _ _
   | exact q1z.mono _ _
   | exact q4z.mono _ _
   | exact span_Union.mono _ _ _
   | exact LeO.none _
   | refine LeO.ite ?_ ?_
   | refine LeO.bind ?_ (fun _ => ?_)
  ·
   intro y0 y1 y2 y3 y4 y5
   unfold q11z.j1
   repeat' first
   | (with_reducible exact ih0 _ _ _ _)
   | (with_reducible exact ih1 _ _ _ _ _ _)
   | (with_reducible exact q9z.mono _)
   | (with_reducible exact q2z.mono _ _ _)
   | (with_reducible exact q3z.mono _ _ _)
   | (with_reducible exact q1z.mono _ _)
   | (with_reducible exact q4z.mono _ _)
   | (with_reducible exact span_Union.mono _ _ _)
   | (with_reducible exact LeO.refl _)
   | (with_reducible exact LeO.none _)
   | (with_reducible refine LeO.ite ?_ ?_)
   | (with_reducible refine LeO.bind ?_ (fun _ => ?_))
   | exact ih0 _ _ _ _
   | exact ih1 _ _ _ _ _ _
   | exact q9z.mono _
   | exact q2z.mono _ _ _
   | exact q3z.mono _ _ _
   | exact q1z.mono _ _
   | exact q4z.mono _ _
   | exact span_Union.mono _ _ _
   | exact LeO.none _
   | refine LeO.ite ?_ ?_
   | refine LeO.bind ?_ (fun _ => ?_)
theorem q11z.mono : ∀ a0 a1 a2 k, LeO (q11z.f k a0 a1 a2) (q11z.f (k + 1) a0 a1 a2) := by
 intro a0 a1 a2 k
 obtain ⟨ih0, ih1⟩ := q11z.mono_l k
 unfold q11z.f
 repeat' first
   | (with_reducible exact ih0 _ _ _ _)
   | (with_reducible exact ih1 _ _ _ _ _ _)
   | (with_reducible exact q9z.mono _)
   | (with_reducible exact q2z.mono _ _ _)
   | (with_reducible exact q3z.mono _ _ _)
   | (with_reducible exact q1z.mono _ _)
   | (with_reducible exact q4z.mono _ _)
   | (with_reducible exact span_Union.mono _ _ _)
   | (with_reducible exact LeO.refl _)
   | (with_reducible exact LeO.none _)
   | (with_reducible refine LeO.ite ?_ ?_)
   | (with_reducible refine LeO.bind ?_ (fun _ => ?_))
   | exact ih0 _ _ _ _
   | exact ih1 _ _ _ _ _ _
   | exact q9z.mono _
   | exact q2z.mono _ _ _
   | exact q3z.mono _ _ _
   | exact q1z.mono _ _
   | exact q4z.mono _ _
   | exact span_Union.mono _ _ _
   | exact LeO.none _
   | refine LeO.ite ?_ ?_
   | refine LeO.bind ?_ (fun _ => ?_)
set_option maxHeartbeats 8000000 in
set_option maxRecDepth 100000 in
theorem q11z.calls (k : Nat) (A0 : Option Addr) (c0 : Nat) (l0 : List (S33)) (A1 : Option Addr) (c1 : Nat) (l1 : List (S33)) (a2 : Int) (r : Bool) (w : World) (hr0 : Kd.C k33 w A0 l0.length l0) (hc0 : l0.length ≤ c0) (hr1 : Kd.C k33 w A1 l1.length l1) (hc1 : l1.length ≤ c1) (h : q11z.f k l0 l1 a2 = some r) :
  Calls Try.prog 7 #[.slice A0 l0.length c0, .slice A1 l1.length c1, .int .u32 a2] w fun e w' => e = .returned (.bool r) ∧ Below w.heap.size w w' := by
 have hu33 := Try.underlying33
 have HR0 := Aside0.mk hr0
 have HC0 := Aside0.mk hc0
 clear hr0 hc0
 have HR1 := Aside0.mk hr1
 have HC1 := Aside0.mk hc1
 clear hr1 hc1
 have HB := Aside0.mk (Below.refl w.heap.size w)
 have H : ((q9z.f k).bind fun t408 => (if t408 = true then ((q10z.f l0).bind fun t409 => (if t409 = true then (q11z.j0 k l0 l1 a2 true) else ((q10z.f l1).bind fun t410 => (q11z.j0 k l0 l1 a2 t410)))) else (some false))) = some r := h
 clear h
 replace H := Option.bind_eq_some_iff.mp H
 obtain ⟨t408, A40, H⟩ := H
 replace H : (if t408 = true then ((q10z.f l0).bind fun t409 => (if t409 = true then (q11z.j0 k l0 l1 a2 true) else ((q10z.f l1).bind fun t410 => (q11z.j0 k l0 l1 a2 t410)))) else (some false)) = some r := H
 have A4 := Aside0.mk A40
 clear A40
 by_cases c5 : t408 = true
 ·
  subst c5
  have H1 : ((q10z.f l0).bind fun t409 => (if t409 = true then (q11z.j0 k l0 l1 a2 true) else ((q10z.f l1).bind fun t410 => (q11z.j0 k l0 l1 a2 t410)))) = some r := by rw [if_pos rfl] at H; exact H
  clear H
  have H := H1
  clear H1
  have HC6 := Aside0.mk H
  clear H
  go_enter Try.func7, Try.ntmps7
  go_upto_region 3 with (first | ((with_reducible refine gate_callee (f := 8) rfl ?_); refine goesL_ (some 11) rfl rfl Try.func8 (by kernel_rfl) rfl #[] rfl (by (try simp only [List.map_toArray, List.map_cons, List.map_nil]); first | done | rfl | (simp only [List.length_drop, List.length_take]; rfl)) ?_; (with_reducible refine (q9z.calls k  true _ A4.out).mono ?_); rintro e w7 ⟨rfl, hb⟩; refine ⟨_, rfl, ?_⟩; have n0_ := Aside0.mk (below_step (by repeat (first | (with_reducible first | exact HB.out | apply below_alloc | apply pw_below_drewN | apply below_drew1) | exact HB.out)) hb); clear HB; have HB := n0_; clear n0_; (try clear hb); (try clear hb2); (try clear hk); (try clear hi)))
  (try simp only [Act.put, List.setIfInBounds_toArray, List.set_cons_zero, List.set_cons_succ])
  go_cut [18] (fun v18 wc => ∃ (kq : Nat) (x18_5 : Bool), v18 = .bool x18_5 ∧ Aside0 (q11z.j0 kq l0 l1 a2 x18_5 = some r) ∧ Aside0 (kq ≤ k) ∧ Aside0 (Below w.heap.size w wc))
  case first =>
   have H := HC6.out
   clear HC6
   replace H := Option.bind_eq_some_iff.mp H
   obtain ⟨t409, A80, H⟩ := H
   replace H : (if t409 = true then (q11z.j0 k l0 l1 a2 true) else ((q10z.f l1).bind fun t410 => (q11z.j0 k l0 l1 a2 t410))) = some r := H
   have A8 := Aside0.mk A80
   clear A80
   by_cases c9 : t409 = true
   ·
    subst c9
    have H1 : (q11z.j0 k l0 l1 a2 true) = some r := by rw [if_pos rfl] at H; exact H
    clear H
    have H := H1
    clear H1
    have H' := Aside0.mk H
    clear H
    go_wp2_with (first | ((with_reducible refine gate_callee (f := 9) rfl ?_); refine goesL_ (some 14) rfl rfl Try.func9 (by kernel_rfl) rfl #[.slice A0 l0.length c0] rfl (by (try simp only [List.map_toArray, List.map_cons, List.map_nil]); first | done | rfl | (simp only [List.length_drop, List.length_take]; rfl)) ?_; (with_reducible refine (q10z.calls _ _ l0 true _ ?side1 ?side2 A8.out).mono ?_); (case side1 => repeat (first | exact (Kd.C_below HR0.out HB.out) | (with_reducible refine Kd.C_alloc ?_ _) | (with_reducible refine Kd.C_drewN ?_ _) | (with_reducible refine Kd.C_drew ?_))); (case side2 => exact HC0.out); rintro e w' ⟨rfl, ⟨nd, rfl⟩⟩; refine ⟨_, rfl, ?_⟩))
    go_meet
    case rel => exact ⟨_, (true), (by first | rfl | (simp; done) | (simp [*]; done)), H', ⟨by first | omega | exact Nat.le_refl _⟩, ⟨by repeat (first | (with_reducible first | exact HB.out | apply below_alloc | apply pw_below_drewN | apply below_drew1) | exact HB.out)⟩⟩
   ·
    replace c9 := Bool.eq_false_iff.mpr c9
    subst c9
    have H1 : ((q10z.f l1).bind fun t410 => (q11z.j0 k l0 l1 a2 t410)) = some r := by rw [if_neg (show ¬ (false = true) by decide)] at H; exact H
    clear H
    have H := H1
    clear H1
    replace H := Option.bind_eq_some_iff.mp H
    obtain ⟨t410, A100, H⟩ := H
    replace H : (q11z.j0 k l0 l1 a2 t410) = some r := H
    have A10 := Aside0.mk A100
    clear A100
    have H' := Aside0.mk H
    clear H
    go_wp2_with (first | ((with_reducible refine gate_callee (f := 9) rfl ?_); refine goesL_ (some 14) rfl rfl Try.func9 (by kernel_rfl) rfl #[.slice A0 l0.length c0] rfl (by (try simp only [List.map_toArray, List.map_cons, List.map_nil]); first | done | rfl | (simp only [List.length_drop, List.length_take]; rfl)) ?_; (with_reducible refine (q10z.calls _ _ l0 false _ ?side1 ?side2 A8.out).mono ?_); (case side1 => repeat (first | exact (Kd.C_below HR0.out HB.out) | (with_reducible refine Kd.C_alloc ?_ _) | (with_reducible refine Kd.C_drewN ?_ _) | (with_reducible refine Kd.C_drew ?_))); (case side2 => exact HC0.out); rintro e w' ⟨rfl, ⟨nd, rfl⟩⟩; refine ⟨_, rfl, ?_⟩) | (go_at_call 9; (with_reducible refine (q10z.calls _ _ l1 t410 _ ?side1 ?side2 A10.out).mono ?_); (case side1 => repeat (first | exact (Kd.C_below HR1.out (by repeat (first | (with_reducible first | exact HB.out | apply below_alloc | apply pw_below_drewN | apply below_drew1) | exact HB.out))) | (with_reducible refine Kd.C_alloc ?_ _) | (with_reducible refine Kd.C_drewN ?_ _) | (with_reducible refine Kd.C_drew ?_))); (case side2 => exact HC1.out); rintro e w' ⟨rfl, ⟨nd, rfl⟩⟩))
    go_meet
    case rel => exact ⟨_, (t410), (by first | rfl | (simp; done) | (simp [*]; done)), H', ⟨by first | omega | exact Nat.le_refl _⟩, ⟨by repeat (first | (with_reducible first | exact HB.out | apply below_alloc | apply pw_below_drewN | apply below_drew1) | exact HB.out)⟩⟩
  case rest =>
   clear HC6
   try clear c1
   try clear p2
   try clear c5
   try clear c7
   try clear c8
   try clear c9
   obtain ⟨kq, x18_5, rfl, HA, HJ5, HB⟩ := hcut
   cases kq with
   | zero => exact absurd HA.out (by simp [q11z.j0])
   | succ kj5 =>
    have H := HA.out
    clear HA
    simp only [q11z.j0] at H
    by_cases c11 : x18_5 = true
    ·
     subst c11
     have H1 : (some true) = some r := by rw [if_pos rfl] at H; exact H
     clear H
     have H := H1
     clear H1
     obtain rfl := Option.some.inj H
     go_wp2
     go_ret
     exact ⟨by first | rfl | (simp [errW_none, errW_some] <;> rfl) | (simp [*, errW_none, errW_some] <;> rfl), by repeat (first | (with_reducible first | exact HB.out | apply below_alloc | apply pw_below_drewN | apply below_drew1) | exact HB.out)⟩
    ·
     replace c11 := Bool.eq_false_iff.mpr c11
     subst c11
     have H1 : ((q1z.f kj5 l0).bind fun t411 => ((q1z.f kj5 l1).bind fun t414 => ((q4z.f kj5 l0).bind fun t417 => ((q4z.f kj5 t417).bind fun t420 => ((q2z.f kj5 t420 t411).bind fun t423 => (if t423 = true then ((q3z.f kj5 l0 l1).bind fun t424 => ((q4z.f kj5 l0).bind fun t427 => ((q4z.f kj5 l1).bind fun t430 => ((span_Union.f kj5 t427 t430).bind fun t433 => ((q4z.f kj5 t433).bind fun t436 => ((q2z.f kj5 t424 t436).bind fun t439 => (if t439 = true then ((q4z.f kj5 l0).bind fun t440 => ((q3z.f kj5 l0 t440).bind fun t443 => (q11z.j1 kj5 l0 l1 a2 t411 t414 ((t443.length : Int) != 0)))) else (q11z.j1 kj5 l0 l1 a2 t411 t414 true)))))))) else (q11z.j1 kj5 l0 l1 a2 t411 t414 true))))))) = some r := by rw [if_neg (show ¬ (false = true) by decide)] at H; exact H
     clear H
     have H := H1
     clear H1
     replace H := Option.bind_eq_some_iff.mp H
     obtain ⟨t411, A120, H⟩ := H
     replace H : ((q1z.f kj5 l1).bind fun t414 => ((q4z.f kj5 l0).bind fun t417 => ((q4z.f kj5 t417).bind fun t420 => ((q2z.f kj5 t420 t411).bind fun t423 => (if t423 = true then ((q3z.f kj5 l0 l1).bind fun t424 => ((q4z.f kj5 l0).bind fun t427 => ((q4z.f kj5 l1).bind fun t430 => ((span_Union.f kj5 t427 t430).bind fun t433 => ((q4z.f kj5 t433).bind fun t436 => ((q2z.f kj5 t424 t436).bind fun t439 => (if t439 = true then ((q4z.f kj5 l0).bind fun t440 => ((q3z.f kj5 l0 t440).bind fun t443 => (q11z.j1 kj5 l0 l1 a2 t411 t414 ((t443.length : Int) != 0)))) else (q11z.j1 kj5 l0 l1 a2 t411 t414 true)))))))) else (q11z.j1 kj5 l0 l1 a2 t411 t414 true)))))) = some r := H
     have A12 := Aside0.mk A120
     clear A120
     replace H := Option.bind_eq_some_iff.mp H
     obtain ⟨t414, A130, H⟩ := H
     replace H : ((q4z.f kj5 l0).bind fun t417 => ((q4z.f kj5 t417).bind fun t420 => ((q2z.f kj5 t420 t411).bind fun t423 => (if t423 = true then ((q3z.f kj5 l0 l1).bind fun t424 => ((q4z.f kj5 l0).bind fun t427 => ((q4z.f kj5 l1).bind fun t430 => ((span_Union.f kj5 t427 t430).bind fun t433 => ((q4z.f kj5 t433).bind fun t436 => ((q2z.f kj5 t424 t436).bind fun t439 => (if t439 = true then ((q4z.f kj5 l0).bind fun t440 => ((q3z.f kj5 l0 t440).bind fun t443 => (q11z.j1 kj5 l0 l1 a2 t411 t414 ((t443.length : Int) != 0)))) else (q11z.j1 kj5 l0 l1 a2 t411 t414 true)))))))) else (q11z.j1 kj5 l0 l1 a2 t411 t414 true))))) = some r := H
     have A13 := Aside0.mk A130
     clear A130
     have HC14 := Aside0.mk H
     clear H
     go_upto_region 6 with (first | ((with_reducible refine gate_callee (f := 14) rfl ?_); refine goesL_ (some 20) rfl rfl Try.func14 (by kernel_rfl) rfl #[.slice A0 l0.length c0] rfl (by (try simp only [List.map_toArray, List.map_cons, List.map_nil]); first | done | rfl | (simp only [List.length_drop, List.length_take]; rfl)) ?_; (with_reducible refine (q1z.calls kj5 _ _ l0 t411 _ ?side1 ?side2 A12.out).mono ?_); (case side1 => repeat (first | exact (Kd.C_below HR0.out HB.out) | (with_reducible refine Kd.C_alloc ?_ _) | (with_reducible refine Kd.C_drewN ?_ _) | (with_reducible refine Kd.C_drew ?_))); (case side2 => exact HC0.out); rintro e w15 ⟨v412, rfl, ho0, hb⟩; refine ⟨_, rfl, ?_⟩; have n0_ := Aside0.mk (Kd.R_lower ho0 (below_size (by repeat (first | (with_reducible first | exact HB.out | apply below_alloc | apply pw_below_drewN | apply below_drew1) | exact HB.out)))); have n1_ := Aside0.mk (below_step (by repeat (first | (with_reducible first | exact HB.out | apply below_alloc | apply pw_below_drewN | apply below_drew1) | exact HB.out)) hb); clear HB; have HO413 := n0_; have HB := n1_; clear n0_ n1_; (try clear hb); (try clear hb2); (try clear hk); (try clear hi); (try clear ho0)) | ((with_reducible refine gate_callee (f := 14) rfl ?_); refine goesL_ (some 22) rfl rfl Try.func14 (by kernel_rfl) rfl #[.slice A1 l1.length c1] rfl (by (try simp only [List.map_toArray, List.map_cons, List.map_nil]); first | done | rfl | (simp only [List.length_drop, List.length_take]; rfl)) ?_; (with_reducible refine (q1z.calls kj5 _ _ l1 t414 _ ?side1 ?side2 A13.out).mono ?_); (case side1 => repeat (first | exact (Kd.C_below HR1.out HB.out) | (with_reducible refine Kd.C_alloc ?_ _) | (with_reducible refine Kd.C_drewN ?_ _) | (with_reducible refine Kd.C_drew ?_))); (case side2 => exact HC1.out); rintro e w16 ⟨v415, rfl, ho0, hb⟩; refine ⟨_, rfl, ?_⟩; have n0_ := Aside0.mk (Kd.R_elder' (by (with_reducible repeat (first | apply Kd.R_alloc | apply Kd.R_drewN | apply Kd.R_drew)); exact HO413.out) (Kd.R_base ho0) hb); have n1_ := Aside0.mk (Kd.R_lower (Kd.R_new' ho0 (Kd.R_lt (by (with_reducible repeat (first | apply Kd.R_alloc | apply Kd.R_drewN | apply Kd.R_drew)); exact HO413.out))) (below_size (by repeat (first | (with_reducible first | exact HB.out | apply below_alloc | apply pw_below_drewN | apply below_drew1) | exact HB.out)))); have n2_ := Aside0.mk (below_step (by repeat (first | (with_reducible first | exact HB.out | apply below_alloc | apply pw_below_drewN | apply below_drew1) | exact HB.out)) hb); clear HO413; clear HB; have HO413 := n0_; have HO416 := n1_; have HB := n2_; clear n0_ n1_ n2_; (try clear hb); (try clear hb2); (try clear hk); (try clear hi); (try clear ho0)))
     (try simp only [Act.put, List.setIfInBounds_toArray, List.set_cons_zero, List.set_cons_succ])
     go_cut [49] (fun v49 wc => ∃ (kq : Nat) (x49_13 : Bool), v49 = .bool x49_13 ∧ Aside0 (q11z.j1 kq l0 l1 a2 t411 t414 x49_13 = some r) ∧ Aside0 (kq ≤ kj5) ∧ Aside0 (Kd.R k33 33 wc w.heap.size (fun k_ => some k_ ≠ (v415 : Value).ownBlock) v412 t411) ∧ Aside0 (Kd.R k33 33 wc w.heap.size (fun k_ => some k_ ≠ (v412 : Value).ownBlock) v415 t414) ∧ Aside0 (Below w.heap.size w wc))
     case first =>
      have H := HC14.out
      clear HC14
      replace H := Option.bind_eq_some_iff.mp H
      obtain ⟨t417, A170, H⟩ := H
      replace H : ((q4z.f kj5 t417).bind fun t420 => ((q2z.f kj5 t420 t411).bind fun t423 => (if t423 = true then ((q3z.f kj5 l0 l1).bind fun t424 => ((q4z.f kj5 l0).bind fun t427 => ((q4z.f kj5 l1).bind fun t430 => ((span_Union.f kj5 t427 t430).bind fun t433 => ((q4z.f kj5 t433).bind fun t436 => ((q2z.f kj5 t424 t436).bind fun t439 => (if t439 = true then ((q4z.f kj5 l0).bind fun t440 => ((q3z.f kj5 l0 t440).bind fun t443 => (q11z.j1 kj5 l0 l1 a2 t411 t414 ((t443.length : Int) != 0)))) else (q11z.j1 kj5 l0 l1 a2 t411 t414 true)))))))) else (q11z.j1 kj5 l0 l1 a2 t411 t414 true)))) = some r := H
      have A17 := Aside0.mk A170
      clear A170
      replace H := Option.bind_eq_some_iff.mp H
      obtain ⟨t420, A180, H⟩ := H
      replace H : ((q2z.f kj5 t420 t411).bind fun t423 => (if t423 = true then ((q3z.f kj5 l0 l1).bind fun t424 => ((q4z.f kj5 l0).bind fun t427 => ((q4z.f kj5 l1).bind fun t430 => ((span_Union.f kj5 t427 t430).bind fun t433 => ((q4z.f kj5 t433).bind fun t436 => ((q2z.f kj5 t424 t436).bind fun t439 => (if t439 = true then ((q4z.f kj5 l0).bind fun t440 => ((q3z.f kj5 l0 t440).bind fun t443 => (q11z.j1 kj5 l0 l1 a2 t411 t414 ((t443.length : Int) != 0)))) else (q11z.j1 kj5 l0 l1 a2 t411 t414 true)))))))) else (q11z.j1 kj5 l0 l1 a2 t411 t414 true))) = some r := H
      have A18 := Aside0.mk A180
      clear A180
      replace H := Option.bind_eq_some_iff.mp H
      obtain ⟨t423, A190, H⟩ := H
      replace H : (if t423 = true then ((q3z.f kj5 l0 l1).bind fun t424 => ((q4z.f kj5 l0).bind fun t427 => ((q4z.f kj5 l1).bind fun t430 => ((span_Union.f kj5 t427 t430).bind fun t433 => ((q4z.f kj5 t433).bind fun t436 => ((q2z.f kj5 t424 t436).bind fun t439 => (if t439 = true then ((q4z.f kj5 l0).bind fun t440 => ((q3z.f kj5 l0 t440).bind fun t443 => (q11z.j1 kj5 l0 l1 a2 t411 t414 ((t443.length : Int) != 0)))) else (q11z.j1 kj5 l0 l1 a2 t411 t414 true)))))))) else (q11z.j1 kj5 l0 l1 a2 t411 t414 true)) = some r := H
      have A19 := Aside0.mk A190
      clear A190
      by_cases c20 : t423 = true
      ·
       subst c20
       have H1 : ((q3z.f kj5 l0 l1).bind fun t424 => ((q4z.f kj5 l0).bind fun t427 => ((q4z.f kj5 l1).bind fun t430 => ((span_Union.f kj5 t427 t430).bind fun t433 => ((q4z.f kj5 t433).bind fun t436 => ((q2z.f kj5 t424 t436).bind fun t439 => (if t439 = true then ((q4z.f kj5 l0).bind fun t440 => ((q3z.f kj5 l0 t440).bind fun t443 => (q11z.j1 kj5 l0 l1 a2 t411 t414 ((t443.length : Int) != 0)))) else (q11z.j1 kj5 l0 l1 a2 t411 t414 true)))))))) = some r := by rw [if_pos rfl] at H; exact H
       clear H
       have H := H1
       clear H1
       replace H := Option.bind_eq_some_iff.mp H
       obtain ⟨t424, A210, H⟩ := H
       replace H : ((q4z.f kj5 l0).bind fun t427 => ((q4z.f kj5 l1).bind fun t430 => ((span_Union.f kj5 t427 t430).bind fun t433 => ((q4z.f kj5 t433).bind fun t436 => ((q2z.f kj5 t424 t436).bind fun t439 => (if t439 = true then ((q4z.f kj5 l0).bind fun t440 => ((q3z.f kj5 l0 t440).bind fun t443 => (q11z.j1 kj5 l0 l1 a2 t411 t414 ((t443.length : Int) != 0)))) else (q11z.j1 kj5 l0 l1 a2 t411 t414 true))))))) = some r := H
       have A21 := Aside0.mk A210
       clear A210
       replace H := Option.bind_eq_some_iff.mp H
       obtain ⟨t427, A220, H⟩ := H
       replace H : ((q4z.f kj5 l1).bind fun t430 => ((span_Union.f kj5 t427 t430).bind fun t433 => ((q4z.f kj5 t433).bind fun t436 => ((q2z.f kj5 t424 t436).bind fun t439 => (if t439 = true then ((q4z.f kj5 l0).bind fun t440 => ((q3z.f kj5 l0 t440).bind fun t443 => (q11z.j1 kj5 l0 l1 a2 t411 t414 ((t443.length : Int) != 0)))) else (q11z.j1 kj5 l0 l1 a2 t411 t414 true)))))) = some r := H
       have A22 := Aside0.mk A220
       clear A220
       replace H := Option.bind_eq_some_iff.mp H
       obtain ⟨t430, A230, H⟩ := H
       replace H : ((span_Union.f kj5 t427 t430).bind fun t433 => ((q4z.f kj5 t433).bind fun t436 => ((q2z.f kj5 t424 t436).bind fun t439 => (if t439 = true then ((q4z.f kj5 l0).bind fun t440 => ((q3z.f kj5 l0 t440).bind fun t443 => (q11z.j1 kj5 l0 l1 a2 t411 t414 ((t443.length : Int) != 0)))) else (q11z.j1 kj5 l0 l1 a2 t411 t414 true))))) = some r := H
       have A23 := Aside0.mk A230
       clear A230
       replace H := Option.bind_eq_some_iff.mp H
       obtain ⟨t433, A240, H⟩ := H
       replace H : ((q4z.f kj5 t433).bind fun t436 => ((q2z.f kj5 t424 t436).bind fun t439 => (if t439 = true then ((q4z.f kj5 l0).bind fun t440 => ((q3z.f kj5 l0 t440).bind fun t443 => (q11z.j1 kj5 l0 l1 a2 t411 t414 ((t443.length : Int) != 0)))) else (q11z.j1 kj5 l0 l1 a2 t411 t414 true)))) = some r := H
       have A24 := Aside0.mk A240
       clear A240
       replace H := Option.bind_eq_some_iff.mp H
       obtain ⟨t436, A250, H⟩ := H
       replace H : ((q2z.f kj5 t424 t436).bind fun t439 => (if t439 = true then ((q4z.f kj5 l0).bind fun t440 => ((q3z.f kj5 l0 t440).bind fun t443 => (q11z.j1 kj5 l0 l1 a2 t411 t414 ((t443.length : Int) != 0)))) else (q11z.j1 kj5 l0 l1 a2 t411 t414 true))) = some r := H
       have A25 := Aside0.mk A250
       clear A250
       replace H := Option.bind_eq_some_iff.mp H
       obtain ⟨t439, A260, H⟩ := H
       replace H : (if t439 = true then ((q4z.f kj5 l0).bind fun t440 => ((q3z.f kj5 l0 t440).bind fun t443 => (q11z.j1 kj5 l0 l1 a2 t411 t414 ((t443.length : Int) != 0)))) else (q11z.j1 kj5 l0 l1 a2 t411 t414 true)) = some r := H
       have A26 := Aside0.mk A260
       clear A260
       by_cases c27 : t439 = true
       ·
        subst c27
        have H1 : ((q4z.f kj5 l0).bind fun t440 => ((q3z.f kj5 l0 t440).bind fun t443 => (q11z.j1 kj5 l0 l1 a2 t411 t414 ((t443.length : Int) != 0)))) = some r := by rw [if_pos rfl] at H; exact H
        clear H
        have H := H1
        clear H1
        replace H := Option.bind_eq_some_iff.mp H
        obtain ⟨t440, A280, H⟩ := H
        replace H : ((q3z.f kj5 l0 t440).bind fun t443 => (q11z.j1 kj5 l0 l1 a2 t411 t414 ((t443.length : Int) != 0))) = some r := H
        have A28 := Aside0.mk A280
        clear A280
        replace H := Option.bind_eq_some_iff.mp H
        obtain ⟨t443, A290, H⟩ := H
        replace H : (q11z.j1 kj5 l0 l1 a2 t411 t414 ((t443.length : Int) != 0)) = some r := H
        have A29 := Aside0.mk A290
        clear A290
        have H' := Aside0.mk H
        clear H
        have tok_1 : True := trivial
        go_wp2_with (first | ((with_reducible refine gate_callee (f := 21) rfl ?_); refine goesL_ (some 24) rfl rfl Try.func21 (by kernel_rfl) rfl #[.slice A0 l0.length c0] rfl (by (try simp only [List.map_toArray, List.map_cons, List.map_nil]); first | done | rfl | (simp only [List.length_drop, List.length_take]; rfl)) ?_; (with_reducible refine (q4z.calls kj5 _ _ l0 t417 _ ?side1 ?side2 A17.out).mono ?_); (case side1 => repeat (first | exact (Kd.C_below HR0.out HB.out) | (with_reducible refine Kd.C_alloc ?_ _) | (with_reducible refine Kd.C_drewN ?_ _) | (with_reducible refine Kd.C_drew ?_))); (case side2 => exact HC0.out); rintro e w30 ⟨v418, rfl, ho0, hb⟩; refine ⟨_, rfl, ?_⟩; have n0_ := Aside0.mk (Kd.R_elder' (by (with_reducible repeat (first | apply Kd.R_alloc | apply Kd.R_drewN | apply Kd.R_drew)); exact HO413.out) (Kd.R_base ho0) hb); have n1_ := Aside0.mk (Kd.R_elder' (by (with_reducible repeat (first | apply Kd.R_alloc | apply Kd.R_drewN | apply Kd.R_drew)); exact HO416.out) (Kd.R_base ho0) hb); have n2_ := Aside0.mk (Kd.R_lower (Kd.R_new' (Kd.R_new' ho0 (Kd.R_lt (by (with_reducible repeat (first | apply Kd.R_alloc | apply Kd.R_drewN | apply Kd.R_drew)); exact HO413.out))) (Kd.R_lt (by (with_reducible repeat (first | apply Kd.R_alloc | apply Kd.R_drewN | apply Kd.R_drew)); exact HO416.out))) (below_size (by repeat (first | (with_reducible first | exact HB.out | apply below_alloc | apply pw_below_drewN | apply below_drew1) | exact HB.out)))); have n3_ := Aside0.mk (below_step (by repeat (first | (with_reducible first | exact HB.out | apply below_alloc | apply pw_below_drewN | apply below_drew1) | exact HB.out)) hb); clear HO413; clear HO416; clear HB; have HO413 := n0_; have HO416 := n1_; have HO419 := n2_; have HB := n3_; clear n0_ n1_ n2_ n3_; (try clear hb); (try clear hb2); (try clear hk); (try clear hi); (try clear ho0); obtain ⟨Ao31, co31, eo31⟩ := Kd.R_slice HO419.out; subst eo31) | ((with_reducible refine gate_callee (f := 21) rfl ?_); refine goesL_ (some 25) rfl rfl Try.func21 (by kernel_rfl) rfl #[.slice Ao31 t417.length co31] rfl (by (try simp only [List.map_toArray, List.map_cons, List.map_nil]); first | done | rfl | (simp only [List.length_drop, List.length_take]; rfl)) ?_; (with_reducible refine (q4z.calls kj5 _ _ t417 t420 _ ?side1 ?side2 A18.out).mono ?_); (case side1 => repeat (first | exact (Kd.R_reads' HO419.out).2.2 | (with_reducible refine Kd.C_alloc ?_ _) | (with_reducible refine Kd.C_drewN ?_ _) | (with_reducible refine Kd.C_drew ?_))); (case side2 => exact (Kd.R_reads' HO419.out).2.1); rintro e w32 ⟨v421, rfl, ho0, hb⟩; refine ⟨_, rfl, ?_⟩; have n0_ := Aside0.mk (Kd.R_elder' (by (with_reducible repeat (first | apply Kd.R_alloc | apply Kd.R_drewN | apply Kd.R_drew)); exact HO413.out) (Kd.R_base ho0) hb); have n1_ := Aside0.mk (Kd.R_elder' (by (with_reducible repeat (first | apply Kd.R_alloc | apply Kd.R_drewN | apply Kd.R_drew)); exact HO416.out) (Kd.R_base ho0) hb); have n2_ := Aside0.mk (Kd.R_elder' (by (with_reducible repeat (first | apply Kd.R_alloc | apply Kd.R_drewN | apply Kd.R_drew)); exact HO419.out) (Kd.R_base ho0) hb); have n3_ := Aside0.mk (Kd.R_lower (Kd.R_new' (Kd.R_new' (Kd.R_new' ho0 (Kd.R_lt (by (with_reducible repeat (first | apply Kd.R_alloc | apply Kd.R_drewN | apply Kd.R_drew)); exact HO413.out))) (Kd.R_lt (by (with_reducible repeat (first | apply Kd.R_alloc | apply Kd.R_drewN | apply Kd.R_drew)); exact HO416.out))) (Kd.R_lt (by (with_reducible repeat (first | apply Kd.R_alloc | apply Kd.R_drewN | apply Kd.R_drew)); exact HO419.out))) (below_size (by repeat (first | (with_reducible first | exact HB.out | apply below_alloc | apply pw_below_drewN | apply below_drew1) | exact HB.out)))); have n4_ := Aside0.mk (below_step (by repeat (first | (with_reducible first | exact HB.out | apply below_alloc | apply pw_below_drewN | apply below_drew1) | exact HB.out)) hb); clear HO413; clear HO416; clear HO419; clear HB; have HO413 := n0_; have HO416 := n1_; have HO419 := n2_; have HO422 := n3_; have HB := n4_; clear n0_ n1_ n2_ n3_ n4_; (try clear hb); (try clear hb2); (try clear hk); (try clear hi); (try clear ho0); obtain ⟨Ao33, co33, eo33⟩ := Kd.R_slice HO422.out; subst eo33; obtain ⟨Ao34, co34, eo34⟩ := Kd.R_slice HO413.out; subst eo34) | ((with_reducible refine gate_callee (f := 10) rfl ?_); refine goesL_ (some 27) rfl rfl Try.func10 (by kernel_rfl) rfl #[.slice Ao33 t420.length co33, .slice Ao34 t411.length co34] rfl (by (try simp only [List.map_toArray, List.map_cons, List.map_nil]); first | done | rfl | (simp only [List.length_drop, List.length_take]; rfl)) ?_; (with_reducible refine (q2z.calls kj5 _ _ t420 _ _ t411 true _ ?side1 ?side2 ?side3 ?side4 A19.out).mono ?_); (case side1 => repeat (first | exact (Kd.R_reads' HO422.out).2.2 | (with_reducible refine Kd.C_alloc ?_ _) | (with_reducible refine Kd.C_drewN ?_ _) | (with_reducible refine Kd.C_drew ?_))); (case side2 => exact (Kd.R_reads' HO422.out).2.1); (case side3 => repeat (first | exact (Kd.R_reads' HO413.out).2.2 | (with_reducible refine Kd.C_alloc ?_ _) | (with_reducible refine Kd.C_drewN ?_ _) | (with_reducible refine Kd.C_drew ?_))); (case side4 => exact (Kd.R_reads' HO413.out).2.1); rintro e w' ⟨rfl, ⟨nd, rfl⟩⟩; refine ⟨_, rfl, ?_⟩) | (go_at_call 18; (with_reducible refine (q3z.calls kj5 _ _ l0 _ _ l1 t424 _ ?side1 ?side2 ?side3 ?side4 A21.out).mono ?_); (case side1 => repeat (first | exact (Kd.C_below HR0.out (by repeat (first | (with_reducible first | exact HB.out | apply below_alloc | apply pw_below_drewN | apply below_drew1) | exact HB.out))) | (with_reducible refine Kd.C_alloc ?_ _) | (with_reducible refine Kd.C_drewN ?_ _) | (with_reducible refine Kd.C_drew ?_))); (case side2 => exact HC0.out); (case side3 => repeat (first | exact (Kd.C_below HR1.out (by repeat (first | (with_reducible first | exact HB.out | apply below_alloc | apply pw_below_drewN | apply below_drew1) | exact HB.out))) | (with_reducible refine Kd.C_alloc ?_ _) | (with_reducible refine Kd.C_drewN ?_ _) | (with_reducible refine Kd.C_drew ?_))); (case side4 => exact HC1.out); rintro e w35 ⟨v425, rfl, ho0, hb⟩; have n0_ := Aside0.mk (Kd.R_elder' (by (with_reducible repeat (first | apply Kd.R_alloc | apply Kd.R_drewN | apply Kd.R_drew)); exact HO413.out) (Kd.R_base ho0) hb); have n1_ := Aside0.mk (Kd.R_elder' (by (with_reducible repeat (first | apply Kd.R_alloc | apply Kd.R_drewN | apply Kd.R_drew)); exact HO416.out) (Kd.R_base ho0) hb); have n2_ := Aside0.mk (Kd.R_elder' (by (with_reducible repeat (first | apply Kd.R_alloc | apply Kd.R_drewN | apply Kd.R_drew)); exact HO419.out) (Kd.R_base ho0) hb); have n3_ := Aside0.mk (Kd.R_elder' (by (with_reducible repeat (first | apply Kd.R_alloc | apply Kd.R_drewN | apply Kd.R_drew)); exact HO422.out) (Kd.R_base ho0) hb); have n4_ := Aside0.mk (Kd.R_lower (Kd.R_new' (Kd.R_new' (Kd.R_new' (Kd.R_new' ho0 (Kd.R_lt (by (with_reducible repeat (first | apply Kd.R_alloc | apply Kd.R_drewN | apply Kd.R_drew)); exact HO413.out))) (Kd.R_lt (by (with_reducible repeat (first | apply Kd.R_alloc | apply Kd.R_drewN | apply Kd.R_drew)); exact HO416.out))) (Kd.R_lt (by (with_reducible repeat (first | apply Kd.R_alloc | apply Kd.R_drewN | apply Kd.R_drew)); exact HO419.out))) (Kd.R_lt (by (with_reducible repeat (first | apply Kd.R_alloc | apply Kd.R_drewN | apply Kd.R_drew)); exact HO422.out))) (below_size (by repeat (first | (with_reducible first | exact HB.out | apply below_alloc | apply pw_below_drewN | apply below_drew1) | exact HB.out)))); have n5_ := Aside0.mk (below_step (by repeat (first | (with_reducible first | exact HB.out | apply below_alloc | apply pw_below_drewN | apply below_drew1) | exact HB.out)) hb); clear HO413; clear HO416; clear HO419; clear HO422; clear HB; have HO413 := n0_; have HO416 := n1_; have HO419 := n2_; have HO422 := n3_; have HO426 := n4_; have HB := n5_; clear n0_ n1_ n2_ n3_ n4_ n5_; (try clear hb); (try clear hb2); (try clear hk); (try clear hi); (try clear ho0)) | (go_at_call 21; have _t := tok_1; (with_reducible refine (q4z.calls kj5 _ _ l0 t427 _ ?side1 ?side2 A22.out).mono ?_); (case side1 => repeat (first | exact (Kd.C_below HR0.out HB.out) | (with_reducible refine Kd.C_alloc ?_ _) | (with_reducible refine Kd.C_drewN ?_ _) | (with_reducible refine Kd.C_drew ?_))); (case side2 => exact HC0.out); rintro e w36 ⟨v428, rfl, ho0, hb⟩; have n0_ := Aside0.mk (Kd.R_elder' (by (with_reducible repeat (first | apply Kd.R_alloc | apply Kd.R_drewN | apply Kd.R_drew)); exact HO413.out) (Kd.R_base ho0) hb); have n1_ := Aside0.mk (Kd.R_elder' (by (with_reducible repeat (first | apply Kd.R_alloc | apply Kd.R_drewN | apply Kd.R_drew)); exact HO416.out) (Kd.R_base ho0) hb); have n2_ := Aside0.mk (Kd.R_elder' (by (with_reducible repeat (first | apply Kd.R_alloc | apply Kd.R_drewN | apply Kd.R_drew)); exact HO419.out) (Kd.R_base ho0) hb); have n3_ := Aside0.mk (Kd.R_elder' (by (with_reducible repeat (first | apply Kd.R_alloc | apply Kd.R_drewN | apply Kd.R_drew)); exact HO422.out) (Kd.R_base ho0) hb); have n4_ := Aside0.mk (Kd.R_elder' (by (with_reducible repeat (first | apply Kd.R_alloc | apply Kd.R_drewN | apply Kd.R_drew)); exact HO426.out) (Kd.R_base ho0) hb); have n5_ := Aside0.mk (Kd.R_lower (Kd.R_new' (Kd.R_new' (Kd.R_new' (Kd.R_new' (Kd.R_new' ho0 (Kd.R_lt (by (with_reducible repeat (first | apply Kd.R_alloc | apply Kd.R_drewN | apply Kd.R_drew)); exact HO413.out))) (Kd.R_lt (by (with_reducible repeat (first | apply Kd.R_alloc | apply Kd.R_drewN | apply Kd.R_drew)); exact HO416.out))) (Kd.R_lt (by (with_reducible repeat (first | apply Kd.R_alloc | apply Kd.R_drewN | apply Kd.R_drew)); exact HO419.out))) (Kd.R_lt (by (with_reducible repeat (first | apply Kd.R_alloc | apply Kd.R_drewN | apply Kd.R_drew)); exact HO422.out))) (Kd.R_lt (by (with_reducible repeat (first | apply Kd.R_alloc | apply Kd.R_drewN | apply Kd.R_drew)); exact HO426.out))) (below_size (by repeat (first | (with_reducible first | exact HB.out | apply below_alloc | apply pw_below_drewN | apply below_drew1) | exact HB.out)))); have n6_ := Aside0.mk (below_step (by repeat (first | (with_reducible first | exact HB.out | apply below_alloc | apply pw_below_drewN | apply below_drew1) | exact HB.out)) hb); clear HO413; clear HO416; clear HO419; clear HO422; clear HO426; clear HB; have HO413 := n0_; have HO416 := n1_; have HO419 := n2_; have HO422 := n3_; have HO426 := n4_; have HO429 := n5_; have HB := n6_; clear n0_ n1_ n2_ n3_ n4_ n5_ n6_; (try clear hb); (try clear hb2); (try clear hk); (try clear hi); (try clear ho0); clear tok_1) | (go_at_call 21; (with_reducible refine (q4z.calls kj5 _ _ l1 t430 _ ?side1 ?side2 A23.out).mono ?_); (case side1 => repeat (first | exact (Kd.C_below HR1.out HB.out) | (with_reducible refine Kd.C_alloc ?_ _) | (with_reducible refine Kd.C_drewN ?_ _) | (with_reducible refine Kd.C_drew ?_))); (case side2 => exact HC1.out); rintro e w37 ⟨v431, rfl, ho0, hb⟩; have n0_ := Aside0.mk (Kd.R_elder' (by (with_reducible repeat (first | apply Kd.R_alloc | apply Kd.R_drewN | apply Kd.R_drew)); exact HO413.out) (Kd.R_base ho0) hb); have n1_ := Aside0.mk (Kd.R_elder' (by (with_reducible repeat (first | apply Kd.R_alloc | apply Kd.R_drewN | apply Kd.R_drew)); exact HO416.out) (Kd.R_base ho0) hb); have n2_ := Aside0.mk (Kd.R_elder' (by (with_reducible repeat (first | apply Kd.R_alloc | apply Kd.R_drewN | apply Kd.R_drew)); exact HO419.out) (Kd.R_base ho0) hb); have n3_ := Aside0.mk (Kd.R_elder' (by (with_reducible repeat (first | apply Kd.R_alloc | apply Kd.R_drewN | apply Kd.R_drew)); exact HO422.out) (Kd.R_base ho0) hb); have n4_ := Aside0.mk (Kd.R_elder' (by (with_reducible repeat (first | apply Kd.R_alloc | apply Kd.R_drewN | apply Kd.R_drew)); exact HO426.out) (Kd.R_base ho0) hb); have n5_ := Aside0.mk (Kd.R_elder' (by (with_reducible repeat (first | apply Kd.R_alloc | apply Kd.R_drewN | apply Kd.R_drew)); exact HO429.out) (Kd.R_base ho0) hb); have n6_ := Aside0.mk (Kd.R_lower (Kd.R_new' (Kd.R_new' (Kd.R_new' (Kd.R_new' (Kd.R_new' (Kd.R_new' ho0 (Kd.R_lt (by (with_reducible repeat (first | apply Kd.R_alloc | apply Kd.R_drewN | apply Kd.R_drew)); exact HO413.out))) (Kd.R_lt (by (with_reducible repeat (first | apply Kd.R_alloc | apply Kd.R_drewN | apply Kd.R_drew)); exact HO416.out))) (Kd.R_lt (by (with_reducible repeat (first | apply Kd.R_alloc | apply Kd.R_drewN | apply Kd.R_drew)); exact HO419.out))) (Kd.R_lt (by (with_reducible repeat (first | apply Kd.R_alloc | apply Kd.R_drewN | apply Kd.R_drew)); exact HO422.out))) (Kd.R_lt (by (with_reducible repeat (first | apply Kd.R_alloc | apply Kd.R_drewN | apply Kd.R_drew)); exact HO426.out))) (Kd.R_lt (by (with_reducible repeat (first | apply Kd.R_alloc | apply Kd.R_drewN | apply Kd.R_drew)); exact HO429.out))) (below_size (by repeat (first | (with_reducible first | exact HB.out | apply below_alloc | apply pw_below_drewN | apply below_drew1) | exact HB.out)))); have n7_ := Aside0.mk (below_step (by repeat (first | (with_reducible first | exact HB.out | apply below_alloc | apply pw_below_drewN | apply below_drew1) | exact HB.out)) hb); clear HO413; clear HO416; clear HO419; clear HO422; clear HO426; clear HO429; clear HB; have HO413 := n0_; have HO416 := n1_; have HO419 := n2_; have HO422 := n3_; have HO426 := n4_; have HO429 := n5_; have HO432 := n6_; have HB := n7_; clear n0_ n1_ n2_ n3_ n4_ n5_ n6_ n7_; (try clear hb); (try clear hb2); (try clear hk); (try clear hi); (try clear ho0); obtain ⟨Ao38, co38, eo38⟩ := Kd.R_slice HO429.out; subst eo38; obtain ⟨Ao39, co39, eo39⟩ := Kd.R_slice HO432.out; subst eo39) | (go_at_call 19; (with_reducible refine (span_Union.calls kj5 _ _ t427 _ _ t430 t433 _ ?side1 ?side2 ?side3 ?side4 A24.out).mono ?_); (case side1 => repeat (first | exact (Kd.R_reads' HO429.out).2.2 | (with_reducible refine Kd.C_alloc ?_ _) | (with_reducible refine Kd.C_drewN ?_ _) | (with_reducible refine Kd.C_drew ?_))); (case side2 => exact (Kd.R_reads' HO429.out).2.1); (case side3 => repeat (first | exact (Kd.R_reads' HO432.out).2.2 | (with_reducible refine Kd.C_alloc ?_ _) | (with_reducible refine Kd.C_drewN ?_ _) | (with_reducible refine Kd.C_drew ?_))); (case side4 => exact (Kd.R_reads' HO432.out).2.1); rintro e w40 ⟨v434, rfl, ho0, hb⟩; have n0_ := Aside0.mk (Kd.R_elder' (by (with_reducible repeat (first | apply Kd.R_alloc | apply Kd.R_drewN | apply Kd.R_drew)); exact HO413.out) (Kd.R_base ho0) hb); have n1_ := Aside0.mk (Kd.R_elder' (by (with_reducible repeat (first | apply Kd.R_alloc | apply Kd.R_drewN | apply Kd.R_drew)); exact HO416.out) (Kd.R_base ho0) hb); have n2_ := Aside0.mk (Kd.R_elder' (by (with_reducible repeat (first | apply Kd.R_alloc | apply Kd.R_drewN | apply Kd.R_drew)); exact HO419.out) (Kd.R_base ho0) hb); have n3_ := Aside0.mk (Kd.R_elder' (by (with_reducible repeat (first | apply Kd.R_alloc | apply Kd.R_drewN | apply Kd.R_drew)); exact HO422.out) (Kd.R_base ho0) hb); have n4_ := Aside0.mk (Kd.R_elder' (by (with_reducible repeat (first | apply Kd.R_alloc | apply Kd.R_drewN | apply Kd.R_drew)); exact HO426.out) (Kd.R_base ho0) hb); have n5_ := Aside0.mk (Kd.R_elder' (by (with_reducible repeat (first | apply Kd.R_alloc | apply Kd.R_drewN | apply Kd.R_drew)); exact HO429.out) (Kd.R_base ho0) hb); have n6_ := Aside0.mk (Kd.R_elder' (by (with_reducible repeat (first | apply Kd.R_alloc | apply Kd.R_drewN | apply Kd.R_drew)); exact HO432.out) (Kd.R_base ho0) hb); have n7_ := Aside0.mk (Kd.R_lower (Kd.R_new' (Kd.R_new' (Kd.R_new' (Kd.R_new' (Kd.R_new' (Kd.R_new' (Kd.R_new' ho0 (Kd.R_lt (by (with_reducible repeat (first | apply Kd.R_alloc | apply Kd.R_drewN | apply Kd.R_drew)); exact HO413.out))) (Kd.R_lt (by (with_reducible repeat (first | apply Kd.R_alloc | apply Kd.R_drewN | apply Kd.R_drew)); exact HO416.out))) (Kd.R_lt (by (with_reducible repeat (first | apply Kd.R_alloc | apply Kd.R_drewN | apply Kd.R_drew)); exact HO419.out))) (Kd.R_lt (by (with_reducible repeat (first | apply Kd.R_alloc | apply Kd.R_drewN | apply Kd.R_drew)); exact HO422.out))) (Kd.R_lt (by (with_reducible repeat (first | apply Kd.R_alloc | apply Kd.R_drewN | apply Kd.R_drew)); exact HO426.out))) (Kd.R_lt (by (with_reducible repeat (first | apply Kd.R_alloc | apply Kd.R_drewN | apply Kd.R_drew)); exact HO429.out))) (Kd.R_lt (by (with_reducible repeat (first | apply Kd.R_alloc | apply Kd.R_drewN | apply Kd.R_drew)); exact HO432.out))) (below_size (by repeat (first | (with_reducible first | exact HB.out | apply below_alloc | apply pw_below_drewN | apply below_drew1) | exact HB.out)))); have n8_ := Aside0.mk (below_step (by repeat (first | (with_reducible first | exact HB.out | apply below_alloc | apply pw_below_drewN | apply below_drew1) | exact HB.out)) hb); clear HO413; clear HO416; clear HO419; clear HO422; clear HO426; clear HO429; clear HO432; clear HB; have HO413 := n0_; have HO416 := n1_; have HO419 := n2_; have HO422 := n3_; have HO426 := n4_; have HO429 := n5_; have HO432 := n6_; have HO435 := n7_; have HB := n8_; clear n0_ n1_ n2_ n3_ n4_ n5_ n6_ n7_ n8_; (try clear hb); (try clear hb2); (try clear hk); (try clear hi); (try clear ho0); obtain ⟨Ao41, co41, eo41⟩ := Kd.R_slice HO435.out; subst eo41) | (go_at_call 21; (with_reducible refine (q4z.calls kj5 _ _ t433 t436 _ ?side1 ?side2 A25.out).mono ?_); (case side1 => repeat (first | exact (Kd.R_reads' HO435.out).2.2 | (with_reducible refine Kd.C_alloc ?_ _) | (with_reducible refine Kd.C_drewN ?_ _) | (with_reducible refine Kd.C_drew ?_))); (case side2 => exact (Kd.R_reads' HO435.out).2.1); rintro e w42 ⟨v437, rfl, ho0, hb⟩; have n0_ := Aside0.mk (Kd.R_elder' (by (with_reducible repeat (first | apply Kd.R_alloc | apply Kd.R_drewN | apply Kd.R_drew)); exact HO413.out) (Kd.R_base ho0) hb); have n1_ := Aside0.mk (Kd.R_elder' (by (with_reducible repeat (first | apply Kd.R_alloc | apply Kd.R_drewN | apply Kd.R_drew)); exact HO416.out) (Kd.R_base ho0) hb); have n2_ := Aside0.mk (Kd.R_elder' (by (with_reducible repeat (first | apply Kd.R_alloc | apply Kd.R_drewN | apply Kd.R_drew)); exact HO419.out) (Kd.R_base ho0) hb); have n3_ := Aside0.mk (Kd.R_elder' (by (with_reducible repeat (first | apply Kd.R_alloc | apply Kd.R_drewN | apply Kd.R_drew)); exact HO422.out) (Kd.R_base ho0) hb); have n4_ := Aside0.mk (Kd.R_elder' (by (with_reducible repeat (first | apply Kd.R_alloc | apply Kd.R_drewN | apply Kd.R_drew)); exact HO426.out) (Kd.R_base ho0) hb); have n5_ := Aside0.mk (Kd.R_elder' (by (with_reducible repeat (first | apply Kd.R_alloc | apply Kd.R_drewN | apply Kd.R_drew)); exact HO429.out) (Kd.R_base ho0) hb); have n6_ := Aside0.mk (Kd.R_elder' (by (with_reducible repeat (first | apply Kd.R_alloc | apply Kd.R_drewN | apply Kd.R_drew)); exact HO432.out) (Kd.R_base ho0) hb); have n7_ := Aside0.mk (Kd.R_elder' (by (with_reducible repeat (first | apply Kd.R_alloc | apply Kd.R_drewN | apply Kd.R_drew)); exact HO435.out) (Kd.R_base ho0) hb); have n8_ := Aside0.mk (Kd.R_lower (Kd.R_new' (Kd.R_new' (Kd.R_new' (Kd.R_new' (Kd.R_new' (Kd.R_new' (Kd.R_new' (Kd.R_new' ho0 (Kd.R_lt (by (with_reducible repeat (first | apply Kd.R_alloc | apply Kd.R_drewN | apply Kd.R_drew)); exact HO413.out))) (Kd.R_lt (by (with_reducible repeat (first | apply Kd.R_alloc | apply Kd.R_drewN | apply Kd.R_drew)); exact HO416.out))) (Kd.R_lt (by (with_reducible repeat (first | apply Kd.R_alloc | apply Kd.R_drewN | apply Kd.R_drew)); exact HO419.out))) (Kd.R_lt (by (with_reducible repeat (first | apply Kd.R_alloc | apply Kd.R_drewN | apply Kd.R_drew)); exact HO422.out))) (Kd.R_lt (by (with_reducible repeat (first | apply Kd.R_alloc | apply Kd.R_drewN | apply Kd.R_drew)); exact HO426.out))) (Kd.R_lt (by (with_reducible repeat (first | apply Kd.R_alloc | apply Kd.R_drewN | apply Kd.R_drew)); exact HO429.out))) (Kd.R_lt (by (with_reducible repeat (first | apply Kd.R_alloc | apply Kd.R_drewN | apply Kd.R_drew)); exact HO432.out))) (Kd.R_lt (by (with_reducible repeat (first | apply Kd.R_alloc | apply Kd.R_drewN | apply Kd.R_drew)); exact HO435.out))) (below_size (by repeat (first | (with_reducible first | exact HB.out | apply below_alloc | apply pw_below_drewN | apply below_drew1) | exact HB.out)))); have n9_ := Aside0.mk (below_step (by repeat (first | (with_reducible first | exact HB.out | apply below_alloc | apply pw_below_drewN | apply below_drew1) | exact HB.out)) hb); clear HO413; clear HO416; clear HO419; clear HO422; clear HO426; clear HO429; clear HO432; clear HO435; clear HB; have HO413 := n0_; have HO416 := n1_; have HO419 := n2_; have HO422 := n3_; have HO426 := n4_; have HO429 := n5_; have HO432 := n6_; have HO435 := n7_; have HO438 := n8_; have HB := n9_; clear n0_ n1_ n2_ n3_ n4_ n5_ n6_ n7_ n8_ n9_; (try clear hb); (try clear hb2); (try clear hk); (try clear hi); (try clear ho0); obtain ⟨Ao43, co43, eo43⟩ := Kd.R_slice HO426.out; subst eo43; obtain ⟨Ao44, co44, eo44⟩ := Kd.R_slice HO438.out; subst eo44) | (go_at_call 10; (with_reducible refine (q2z.calls kj5 _ _ t424 _ _ t436 true _ ?side1 ?side2 ?side3 ?side4 A26.out).mono ?_); (case side1 => repeat (first | exact (Kd.R_reads' HO426.out).2.2 | (with_reducible refine Kd.C_alloc ?_ _) | (with_reducible refine Kd.C_drewN ?_ _) | (with_reducible refine Kd.C_drew ?_))); (case side2 => exact (Kd.R_reads' HO426.out).2.1); (case side3 => repeat (first | exact (Kd.R_reads' HO438.out).2.2 | (with_reducible refine Kd.C_alloc ?_ _) | (with_reducible refine Kd.C_drewN ?_ _) | (with_reducible refine Kd.C_drew ?_))); (case side4 => exact (Kd.R_reads' HO438.out).2.1); rintro e w' ⟨rfl, ⟨nd, rfl⟩⟩) | (go_at_call 21; (with_reducible refine (q4z.calls kj5 _ _ l0 t440 _ ?side1 ?side2 A28.out).mono ?_); (case side1 => repeat (first | exact (Kd.C_below HR0.out (by repeat (first | (with_reducible first | exact HB.out | apply below_alloc | apply pw_below_drewN | apply below_drew1) | exact HB.out))) | (with_reducible refine Kd.C_alloc ?_ _) | (with_reducible refine Kd.C_drewN ?_ _) | (with_reducible refine Kd.C_drew ?_))); (case side2 => exact HC0.out); rintro e w45 ⟨v441, rfl, ho0, hb⟩; have n0_ := Aside0.mk (Kd.R_elder' (by (with_reducible repeat (first | apply Kd.R_alloc | apply Kd.R_drewN | apply Kd.R_drew)); exact HO413.out) (Kd.R_base ho0) hb); have n1_ := Aside0.mk (Kd.R_elder' (by (with_reducible repeat (first | apply Kd.R_alloc | apply Kd.R_drewN | apply Kd.R_drew)); exact HO416.out) (Kd.R_base ho0) hb); have n2_ := Aside0.mk (Kd.R_elder' (by (with_reducible repeat (first | apply Kd.R_alloc | apply Kd.R_drewN | apply Kd.R_drew)); exact HO419.out) (Kd.R_base ho0) hb); have n3_ := Aside0.mk (Kd.R_elder' (by (with_reducible repeat (first | apply Kd.R_alloc | apply Kd.R_drewN | apply Kd.R_drew)); exact HO422.out) (Kd.R_base ho0) hb); have n4_ := Aside0.mk (Kd.R_elder' (by (with_reducible repeat (first | apply Kd.R_alloc | apply Kd.R_drewN | apply Kd.R_drew)); exact HO426.out) (Kd.R_base ho0) hb); have n5_ := Aside0.mk (Kd.R_elder' (by (with_reducible repeat (first | apply Kd.R_alloc | apply Kd.R_drewN | apply Kd.R_drew)); exact HO429.out) (Kd.R_base ho0) hb); have n6_ := Aside0.mk (Kd.R_elder' (by (with_reducible repeat (first | apply Kd.R_alloc | apply Kd.R_drewN | apply Kd.R_drew)); exact HO432.out) (Kd.R_base ho0) hb); have n7_ := Aside0.mk (Kd.R_elder' (by (with_reducible repeat (first | apply Kd.R_alloc | apply Kd.R_drewN | apply Kd.R_drew)); exact HO435.out) (Kd.R_base ho0) hb); have n8_ := Aside0.mk (Kd.R_elder' (by (with_reducible repeat (first | apply Kd.R_alloc | apply Kd.R_drewN | apply Kd.R_drew)); exact HO438.out) (Kd.R_base ho0) hb); have n9_ := Aside0.mk (Kd.R_lower (Kd.R_new' (Kd.R_new' (Kd.R_new' (Kd.R_new' (Kd.R_new' (Kd.R_new' (Kd.R_new' (Kd.R_new' (Kd.R_new' ho0 (Kd.R_lt (by (with_reducible repeat (first | apply Kd.R_alloc | apply Kd.R_drewN | apply Kd.R_drew)); exact HO413.out))) (Kd.R_lt (by (with_reducible repeat (first | apply Kd.R_alloc | apply Kd.R_drewN | apply Kd.R_drew)); exact HO416.out))) (Kd.R_lt (by (with_reducible repeat (first | apply Kd.R_alloc | apply Kd.R_drewN | apply Kd.R_drew)); exact HO419.out))) (Kd.R_lt (by (with_reducible repeat (first | apply Kd.R_alloc | apply Kd.R_drewN | apply Kd.R_drew)); exact HO422.out))) (Kd.R_lt (by (with_reducible repeat (first | apply Kd.R_alloc | apply Kd.R_drewN | apply Kd.R_drew)); exact HO426.out))) (Kd.R_lt (by (with_reducible repeat (first | apply Kd.R_alloc | apply Kd.R_drewN | apply Kd.R_drew)); exact HO429.out))) (Kd.R_lt (by (with_reducible repeat (first | apply Kd.R_alloc | apply Kd.R_drewN | apply Kd.R_drew)); exact HO432.out))) (Kd.R_lt (by (with_reducible repeat (first | apply Kd.R_alloc | apply Kd.R_drewN | apply Kd.R_drew)); exact HO435.out))) (Kd.R_lt (by (with_reducible repeat (first | apply Kd.R_alloc | apply Kd.R_drewN | apply Kd.R_drew)); exact HO438.out))) (below_size (by repeat (first | (with_reducible first | exact HB.out | apply below_alloc | apply pw_below_drewN | apply below_drew1) | exact HB.out)))); have n10_ := Aside0.mk (below_step (by repeat (first | (with_reducible first | exact HB.out | apply below_alloc | apply pw_below_drewN | apply below_drew1) | exact HB.out)) hb); clear HO413; clear HO416; clear HO419; clear HO422; clear HO426; clear HO429; clear HO432; clear HO435; clear HO438; clear HB; have HO413 := n0_; have HO416 := n1_; have HO419 := n2_; have HO422 := n3_; have HO426 := n4_; have HO429 := n5_; have HO432 := n6_; have HO435 := n7_; have HO438 := n8_; have HO442 := n9_; have HB := n10_; clear n0_ n1_ n2_ n3_ n4_ n5_ n6_ n7_ n8_ n9_ n10_; (try clear hb); (try clear hb2); (try clear hk); (try clear hi); (try clear ho0); obtain ⟨Ao46, co46, eo46⟩ := Kd.R_slice HO442.out; subst eo46) | (go_at_call 18; (with_reducible refine (q3z.calls kj5 _ _ l0 _ _ t440 t443 _ ?side1 ?side2 ?side3 ?side4 A29.out).mono ?_); (case side1 => repeat (first | exact (Kd.C_below HR0.out HB.out) | (with_reducible refine Kd.C_alloc ?_ _) | (with_reducible refine Kd.C_drewN ?_ _) | (with_reducible refine Kd.C_drew ?_))); (case side2 => exact HC0.out); (case side3 => repeat (first | exact (Kd.R_reads' HO442.out).2.2 | (with_reducible refine Kd.C_alloc ?_ _) | (with_reducible refine Kd.C_drewN ?_ _) | (with_reducible refine Kd.C_drew ?_))); (case side4 => exact (Kd.R_reads' HO442.out).2.1); rintro e w47 ⟨v444, rfl, ho0, hb⟩; have n0_ := Aside0.mk (Kd.R_elder' (by (with_reducible repeat (first | apply Kd.R_alloc | apply Kd.R_drewN | apply Kd.R_drew)); exact HO413.out) (Kd.R_base ho0) hb); have n1_ := Aside0.mk (Kd.R_elder' (by (with_reducible repeat (first | apply Kd.R_alloc | apply Kd.R_drewN | apply Kd.R_drew)); exact HO416.out) (Kd.R_base ho0) hb); have n2_ := Aside0.mk (Kd.R_elder' (by (with_reducible repeat (first | apply Kd.R_alloc | apply Kd.R_drewN | apply Kd.R_drew)); exact HO419.out) (Kd.R_base ho0) hb); have n3_ := Aside0.mk (Kd.R_elder' (by (with_reducible repeat (first | apply Kd.R_alloc | apply Kd.R_drewN | apply Kd.R_drew)); exact HO422.out) (Kd.R_base ho0) hb); have n4_ := Aside0.mk (Kd.R_elder' (by (with_reducible repeat (first | apply Kd.R_alloc | apply Kd.R_drewN | apply Kd.R_drew)); exact HO426.out) (Kd.R_base ho0) hb); have n5_ := Aside0.mk (Kd.R_elder' (by (with_reducible repeat (first | apply Kd.R_alloc | apply Kd.R_drewN | apply Kd.R_drew)); exact HO429.out) (Kd.R_base ho0) hb); have n6_ := Aside0.mk (Kd.R_elder' (by (with_reducible repeat (first | apply Kd.R_alloc | apply Kd.R_drewN | apply Kd.R_drew)); exact HO432.out) (Kd.R_base ho0) hb); have n7_ := Aside0.mk (Kd.R_elder' (by (with_reducible repeat (first | apply Kd.R_alloc | apply Kd.R_drewN | apply Kd.R_drew)); exact HO435.out) (Kd.R_base ho0) hb); have n8_ := Aside0.mk (Kd.R_elder' (by (with_reducible repeat (first | apply Kd.R_alloc | apply Kd.R_drewN | apply Kd.R_drew)); exact HO438.out) (Kd.R_base ho0) hb); have n9_ := Aside0.mk (Kd.R_elder' (by (with_reducible repeat (first | apply Kd.R_alloc | apply Kd.R_drewN | apply Kd.R_drew)); exact HO442.out) (Kd.R_base ho0) hb); have n10_ := Aside0.mk (Kd.R_lower (Kd.R_new' (Kd.R_new' (Kd.R_new' (Kd.R_new' (Kd.R_new' (Kd.R_new' (Kd.R_new' (Kd.R_new' (Kd.R_new' (Kd.R_new' ho0 (Kd.R_lt (by (with_reducible repeat (first | apply Kd.R_alloc | apply Kd.R_drewN | apply Kd.R_drew)); exact HO413.out))) (Kd.R_lt (by (with_reducible repeat (first | apply Kd.R_alloc | apply Kd.R_drewN | apply Kd.R_drew)); exact HO416.out))) (Kd.R_lt (by (with_reducible repeat (first | apply Kd.R_alloc | apply Kd.R_drewN | apply Kd.R_drew)); exact HO419.out))) (Kd.R_lt (by (with_reducible repeat (first | apply Kd.R_alloc | apply Kd.R_drewN | apply Kd.R_drew)); exact HO422.out))) (Kd.R_lt (by (with_reducible repeat (first | apply Kd.R_alloc | apply Kd.R_drewN | apply Kd.R_drew)); exact HO426.out))) (Kd.R_lt (by (with_reducible repeat (first | apply Kd.R_alloc | apply Kd.R_drewN | apply Kd.R_drew)); exact HO429.out))) (Kd.R_lt (by (with_reducible repeat (first | apply Kd.R_alloc | apply Kd.R_drewN | apply Kd.R_drew)); exact HO432.out))) (Kd.R_lt (by (with_reducible repeat (first | apply Kd.R_alloc | apply Kd.R_drewN | apply Kd.R_drew)); exact HO435.out))) (Kd.R_lt (by (with_reducible repeat (first | apply Kd.R_alloc | apply Kd.R_drewN | apply Kd.R_drew)); exact HO438.out))) (Kd.R_lt (by (with_reducible repeat (first | apply Kd.R_alloc | apply Kd.R_drewN | apply Kd.R_drew)); exact HO442.out))) (below_size (by repeat (first | (with_reducible first | exact HB.out | apply below_alloc | apply pw_below_drewN | apply below_drew1) | exact HB.out)))); have n11_ := Aside0.mk (below_step (by repeat (first | (with_reducible first | exact HB.out | apply below_alloc | apply pw_below_drewN | apply below_drew1) | exact HB.out)) hb); clear HO413; clear HO416; clear HO419; clear HO422; clear HO426; clear HO429; clear HO432; clear HO435; clear HO438; clear HO442; clear HB; have HO413 := n0_; have HO416 := n1_; have HO419 := n2_; have HO422 := n3_; have HO426 := n4_; have HO429 := n5_; have HO432 := n6_; have HO435 := n7_; have HO438 := n8_; have HO442 := n9_; have HO445 := n10_; have HB := n11_; clear n0_ n1_ n2_ n3_ n4_ n5_ n6_ n7_ n8_ n9_ n10_ n11_; (try clear hb); (try clear hb2); (try clear hk); (try clear hi); (try clear ho0); obtain ⟨Ao48, co48, eo48⟩ := Kd.R_slice HO445.out; subst eo48))
        go_meet
        case rel => exact ⟨_, (((t443.length : Int) != 0)), (by first | rfl | (simp; done) | (simp [*]; done)), H', ⟨by have := HJ5.out; first | omega | exact Nat.le_refl _⟩, ⟨by (with_reducible repeat (first | apply Kd.R_alloc | apply Kd.R_drewN | apply Kd.R_drew)); exact Kd.R_mono HO413.out (fun _ hk => hk.1.1.1.1.1.1.1.1.1.2)⟩, ⟨by (with_reducible repeat (first | apply Kd.R_alloc | apply Kd.R_drewN | apply Kd.R_drew)); exact Kd.R_mono HO416.out (fun _ hk => hk.1.1.1.1.1.1.1.1.1.2)⟩, ⟨by repeat (first | (with_reducible first | exact HB.out | apply below_alloc | apply pw_below_drewN | apply below_drew1) | exact HB.out)⟩⟩
       ·
        replace c27 := Bool.eq_false_iff.mpr c27
        subst c27
        have H1 : (q11z.j1 kj5 l0 l1 a2 t411 t414 true) = some r := by rw [if_neg (show ¬ (false = true) by decide)] at H; exact H
        clear H
        have H := H1
        clear H1
        have H' := Aside0.mk H
        clear H
        go_wp2_with (first | ((with_reducible refine gate_callee (f := 21) rfl ?_); refine goesL_ (some 24) rfl rfl Try.func21 (by kernel_rfl) rfl #[.slice A0 l0.length c0] rfl (by (try simp only [List.map_toArray, List.map_cons, List.map_nil]); first | done | rfl | (simp only [List.length_drop, List.length_take]; rfl)) ?_; (with_reducible refine (q4z.calls kj5 _ _ l0 t417 _ ?side1 ?side2 A17.out).mono ?_); (case side1 => repeat (first | exact (Kd.C_below HR0.out HB.out) | (with_reducible refine Kd.C_alloc ?_ _) | (with_reducible refine Kd.C_drewN ?_ _) | (with_reducible refine Kd.C_drew ?_))); (case side2 => exact HC0.out); rintro e w49 ⟨v418, rfl, ho0, hb⟩; refine ⟨_, rfl, ?_⟩; have n0_ := Aside0.mk (Kd.R_elder' (by (with_reducible repeat (first | apply Kd.R_alloc | apply Kd.R_drewN | apply Kd.R_drew)); exact HO413.out) (Kd.R_base ho0) hb); have n1_ := Aside0.mk (Kd.R_elder' (by (with_reducible repeat (first | apply Kd.R_alloc | apply Kd.R_drewN | apply Kd.R_drew)); exact HO416.out) (Kd.R_base ho0) hb); have n2_ := Aside0.mk (Kd.R_lower (Kd.R_new' (Kd.R_new' ho0 (Kd.R_lt (by (with_reducible repeat (first | apply Kd.R_alloc | apply Kd.R_drewN | apply Kd.R_drew)); exact HO413.out))) (Kd.R_lt (by (with_reducible repeat (first | apply Kd.R_alloc | apply Kd.R_drewN | apply Kd.R_drew)); exact HO416.out))) (below_size (by repeat (first | (with_reducible first | exact HB.out | apply below_alloc | apply pw_below_drewN | apply below_drew1) | exact HB.out)))); have n3_ := Aside0.mk (below_step (by repeat (first | (with_reducible first | exact HB.out | apply below_alloc | apply pw_below_drewN | apply below_drew1) | exact HB.out)) hb); clear HO413; clear HO416; clear HB; have HO413 := n0_; have HO416 := n1_; have HO419 := n2_; have HB := n3_; clear n0_ n1_ n2_ n3_; (try clear hb); (try clear hb2); (try clear hk); (try clear hi); (try clear ho0); obtain ⟨Ao50, co50, eo50⟩ := Kd.R_slice HO419.out; subst eo50) | ((with_reducible refine gate_callee (f := 21) rfl ?_); refine goesL_ (some 25) rfl rfl Try.func21 (by kernel_rfl) rfl #[.slice Ao50 t417.length co50] rfl (by (try simp only [List.map_toArray, List.map_cons, List.map_nil]); first | done | rfl | (simp only [List.length_drop, List.length_take]; rfl)) ?_; (with_reducible refine (q4z.calls kj5 _ _ t417 t420 _ ?side1 ?side2 A18.out).mono ?_); (case side1 => repeat (first | exact (Kd.R_reads' HO419.out).2.2 | (with_reducible refine Kd.C_alloc ?_ _) | (with_reducible refine Kd.C_drewN ?_ _) | (with_reducible refine Kd.C_drew ?_))); (case side2 => exact (Kd.R_reads' HO419.out).2.1); rintro e w51 ⟨v421, rfl, ho0, hb⟩; refine ⟨_, rfl, ?_⟩; have n0_ := Aside0.mk (Kd.R_elder' (by (with_reducible repeat (first | apply Kd.R_alloc | apply Kd.R_drewN | apply Kd.R_drew)); exact HO413.out) (Kd.R_base ho0) hb); have n1_ := Aside0.mk (Kd.R_elder' (by (with_reducible repeat (first | apply Kd.R_alloc | apply Kd.R_drewN | apply Kd.R_drew)); exact HO416.out) (Kd.R_base ho0) hb); have n2_ := Aside0.mk (Kd.R_elder' (by (with_reducible repeat (first | apply Kd.R_alloc | apply Kd.R_drewN | apply Kd.R_drew)); exact HO419.out) (Kd.R_base ho0) hb); have n3_ := Aside0.mk (Kd.R_lower (Kd.R_new' (Kd.R_new' (Kd.R_new' ho0 (Kd.R_lt (by (with_reducible repeat (first | apply Kd.R_alloc | apply Kd.R_drewN | apply Kd.R_drew)); exact HO413.out))) (Kd.R_lt (by (with_reducible repeat (first | apply Kd.R_alloc | apply Kd.R_drewN | apply Kd.R_drew)); exact HO416.out))) (Kd.R_lt (by (with_reducible repeat (first | apply Kd.R_alloc | apply Kd.R_drewN | apply Kd.R_drew)); exact HO419.out))) (below_size (by repeat (first | (with_reducible first | exact HB.out | apply below_alloc | apply pw_below_drewN | apply below_drew1) | exact HB.out)))); have n4_ := Aside0.mk (below_step (by repeat (first | (with_reducible first | exact HB.out | apply below_alloc | apply pw_below_drewN | apply below_drew1) | exact HB.out)) hb); clear HO413; clear HO416; clear HO419; clear HB; have HO413 := n0_; have HO416 := n1_; have HO419 := n2_; have HO422 := n3_; have HB := n4_; clear n0_ n1_ n2_ n3_ n4_; (try clear hb); (try clear hb2); (try clear hk); (try clear hi); (try clear ho0); obtain ⟨Ao52, co52, eo52⟩ := Kd.R_slice HO422.out; subst eo52; obtain ⟨Ao53, co53, eo53⟩ := Kd.R_slice HO413.out; subst eo53) | ((with_reducible refine gate_callee (f := 10) rfl ?_); refine goesL_ (some 27) rfl rfl Try.func10 (by kernel_rfl) rfl #[.slice Ao52 t420.length co52, .slice Ao53 t411.length co53] rfl (by (try simp only [List.map_toArray, List.map_cons, List.map_nil]); first | done | rfl | (simp only [List.length_drop, List.length_take]; rfl)) ?_; (with_reducible refine (q2z.calls kj5 _ _ t420 _ _ t411 true _ ?side1 ?side2 ?side3 ?side4 A19.out).mono ?_); (case side1 => repeat (first | exact (Kd.R_reads' HO422.out).2.2 | (with_reducible refine Kd.C_alloc ?_ _) | (with_reducible refine Kd.C_drewN ?_ _) | (with_reducible refine Kd.C_drew ?_))); (case side2 => exact (Kd.R_reads' HO422.out).2.1); (case side3 => repeat (first | exact (Kd.R_reads' HO413.out).2.2 | (with_reducible refine Kd.C_alloc ?_ _) | (with_reducible refine Kd.C_drewN ?_ _) | (with_reducible refine Kd.C_drew ?_))); (case side4 => exact (Kd.R_reads' HO413.out).2.1); rintro e w' ⟨rfl, ⟨nd, rfl⟩⟩; refine ⟨_, rfl, ?_⟩) | (go_at_call 18; (with_reducible refine (q3z.calls kj5 _ _ l0 _ _ l1 t424 _ ?side1 ?side2 ?side3 ?side4 A21.out).mono ?_); (case side1 => repeat (first | exact (Kd.C_below HR0.out (by repeat (first | (with_reducible first | exact HB.out | apply below_alloc | apply pw_below_drewN | apply below_drew1) | exact HB.out))) | (with_reducible refine Kd.C_alloc ?_ _) | (with_reducible refine Kd.C_drewN ?_ _) | (with_reducible refine Kd.C_drew ?_))); (case side2 => exact HC0.out); (case side3 => repeat (first | exact (Kd.C_below HR1.out (by repeat (first | (with_reducible first | exact HB.out | apply below_alloc | apply pw_below_drewN | apply below_drew1) | exact HB.out))) | (with_reducible refine Kd.C_alloc ?_ _) | (with_reducible refine Kd.C_drewN ?_ _) | (with_reducible refine Kd.C_drew ?_))); (case side4 => exact HC1.out); rintro e w54 ⟨v425, rfl, ho0, hb⟩; have n0_ := Aside0.mk (Kd.R_elder' (by (with_reducible repeat (first | apply Kd.R_alloc | apply Kd.R_drewN | apply Kd.R_drew)); exact HO413.out) (Kd.R_base ho0) hb); have n1_ := Aside0.mk (Kd.R_elder' (by (with_reducible repeat (first | apply Kd.R_alloc | apply Kd.R_drewN | apply Kd.R_drew)); exact HO416.out) (Kd.R_base ho0) hb); have n2_ := Aside0.mk (Kd.R_elder' (by (with_reducible repeat (first | apply Kd.R_alloc | apply Kd.R_drewN | apply Kd.R_drew)); exact HO419.out) (Kd.R_base ho0) hb); have n3_ := Aside0.mk (Kd.R_elder' (by (with_reducible repeat (first | apply Kd.R_alloc | apply Kd.R_drewN | apply Kd.R_drew)); exact HO422.out) (Kd.R_base ho0) hb); have n4_ := Aside0.mk (Kd.R_lower (Kd.R_new' (Kd.R_new' (Kd.R_new' (Kd.R_new' ho0 (Kd.R_lt (by (with_reducible repeat (first | apply Kd.R_alloc | apply Kd.R_drewN | apply Kd.R_drew)); exact HO413.out))) (Kd.R_lt (by (with_reducible repeat (first | apply Kd.R_alloc | apply Kd.R_drewN | apply Kd.R_drew)); exact HO416.out))) (Kd.R_lt (by (with_reducible repeat (first | apply Kd.R_alloc | apply Kd.R_drewN | apply Kd.R_drew)); exact HO419.out))) (Kd.R_lt (by (with_reducible repeat (first | apply Kd.R_alloc | apply Kd.R_drewN | apply Kd.R_drew)); exact HO422.out))) (below_size (by repeat (first | (with_reducible first | exact HB.out | apply below_alloc | apply pw_below_drewN | apply below_drew1) | exact HB.out)))); have n5_ := Aside0.mk (below_step (by repeat (first | (with_reducible first | exact HB.out | apply below_alloc | apply pw_below_drewN | apply below_drew1) | exact HB.out)) hb); clear HO413; clear HO416; clear HO419; clear HO422; clear HB; have HO413 := n0_; have HO416 := n1_; have HO419 := n2_; have HO422 := n3_; have HO426 := n4_; have HB := n5_; clear n0_ n1_ n2_ n3_ n4_ n5_; (try clear hb); (try clear hb2); (try clear hk); (try clear hi); (try clear ho0)) | (go_at_call 21; (with_reducible refine (q4z.calls kj5 _ _ l0 t427 _ ?side1 ?side2 A22.out).mono ?_); (case side1 => repeat (first | exact (Kd.C_below HR0.out HB.out) | (with_reducible refine Kd.C_alloc ?_ _) | (with_reducible refine Kd.C_drewN ?_ _) | (with_reducible refine Kd.C_drew ?_))); (case side2 => exact HC0.out); rintro e w55 ⟨v428, rfl, ho0, hb⟩; have n0_ := Aside0.mk (Kd.R_elder' (by (with_reducible repeat (first | apply Kd.R_alloc | apply Kd.R_drewN | apply Kd.R_drew)); exact HO413.out) (Kd.R_base ho0) hb); have n1_ := Aside0.mk (Kd.R_elder' (by (with_reducible repeat (first | apply Kd.R_alloc | apply Kd.R_drewN | apply Kd.R_drew)); exact HO416.out) (Kd.R_base ho0) hb); have n2_ := Aside0.mk (Kd.R_elder' (by (with_reducible repeat (first | apply Kd.R_alloc | apply Kd.R_drewN | apply Kd.R_drew)); exact HO419.out) (Kd.R_base ho0) hb); have n3_ := Aside0.mk (Kd.R_elder' (by (with_reducible repeat (first | apply Kd.R_alloc | apply Kd.R_drewN | apply Kd.R_drew)); exact HO422.out) (Kd.R_base ho0) hb); have n4_ := Aside0.mk (Kd.R_elder' (by (with_reducible repeat (first | apply Kd.R_alloc | apply Kd.R_drewN | apply Kd.R_drew)); exact HO426.out) (Kd.R_base ho0) hb); have n5_ := Aside0.mk (Kd.R_lower (Kd.R_new' (Kd.R_new' (Kd.R_new' (Kd.R_new' (Kd.R_new' ho0 (Kd.R_lt (by (with_reducible repeat (first | apply Kd.R_alloc | apply Kd.R_drewN | apply Kd.R_drew)); exact HO413.out))) (Kd.R_lt (by (with_reducible repeat (first | apply Kd.R_alloc | apply Kd.R_drewN | apply Kd.R_drew)); exact HO416.out))) (Kd.R_lt (by (with_reducible repeat (first | apply Kd.R_alloc | apply Kd.R_drewN | apply Kd.R_drew)); exact HO419.out))) (Kd.R_lt (by (with_reducible repeat (first | apply Kd.R_alloc | apply Kd.R_drewN | apply Kd.R_drew)); exact HO422.out))) (Kd.R_lt (by (with_reducible repeat (first | apply Kd.R_alloc | apply Kd.R_drewN | apply Kd.R_drew)); exact HO426.out))) (below_size (by repeat (first | (with_reducible first | exact HB.out | apply below_alloc | apply pw_below_drewN | apply below_drew1) | exact HB.out)))); have n6_ := Aside0.mk (below_step (by repeat (first | (with_reducible first | exact HB.out | apply below_alloc | apply pw_below_drewN | apply below_drew1) | exact HB.out)) hb); clear HO413; clear HO416; clear HO419; clear HO422; clear HO426; clear HB; have HO413 := n0_; have HO416 := n1_; have HO419 := n2_; have HO422 := n3_; have HO426 := n4_; have HO429 := n5_; have HB := n6_; clear n0_ n1_ n2_ n3_ n4_ n5_ n6_; (try clear hb); (try clear hb2); (try clear hk); (try clear hi); (try clear ho0)) | (go_at_call 21; (with_reducible refine (q4z.calls kj5 _ _ l1 t430 _ ?side1 ?side2 A23.out).mono ?_); (case side1 => repeat (first | exact (Kd.C_below HR1.out HB.out) | (with_reducible refine Kd.C_alloc ?_ _) | (with_reducible refine Kd.C_drewN ?_ _) | (with_reducible refine Kd.C_drew ?_))); (case side2 => exact HC1.out); rintro e w56 ⟨v431, rfl, ho0, hb⟩; have n0_ := Aside0.mk (Kd.R_elder' (by (with_reducible repeat (first | apply Kd.R_alloc | apply Kd.R_drewN | apply Kd.R_drew)); exact HO413.out) (Kd.R_base ho0) hb); have n1_ := Aside0.mk (Kd.R_elder' (by (with_reducible repeat (first | apply Kd.R_alloc | apply Kd.R_drewN | apply Kd.R_drew)); exact HO416.out) (Kd.R_base ho0) hb); have n2_ := Aside0.mk (Kd.R_elder' (by (with_reducible repeat (first | apply Kd.R_alloc | apply Kd.R_drewN | apply Kd.R_drew)); exact HO419.out) (Kd.R_base ho0) hb); have n3_ := Aside0.mk (Kd.R_elder' (by (with_reducible repeat (first | apply Kd.R_alloc | apply Kd.R_drewN | apply Kd.R_drew)); exact HO422.out) (Kd.R_base ho0) hb); have n4_ := Aside0.mk (Kd.R_elder' (by (with_reducible repeat (first | apply Kd.R_alloc | apply Kd.R_drewN | apply Kd.R_drew)); exact HO426.out) (Kd.R_base ho0) hb); have n5_ := Aside0.mk (Kd.R_elder' (by (with_reducible repeat (first | apply Kd.R_alloc | apply Kd.R_drewN | apply Kd.R_drew)); exact HO429.out) (Kd.R_base ho0) hb); have n6_ := Aside0.mk (Kd.R_lower (Kd.R_new' (Kd.R_new' (Kd.R_new' (Kd.R_new' (Kd.R_new' (Kd.R_new' ho0 (Kd.R_lt (by (with_reducible repeat (first | apply Kd.R_alloc | apply Kd.R_drewN | apply Kd.R_drew)); exact HO413.out))) (Kd.R_lt (by (with_reducible repeat (first | apply Kd.R_alloc | apply Kd.R_drewN | apply Kd.R_drew)); exact HO416.out))) (Kd.R_lt (by (with_reducible repeat (first | apply Kd.R_alloc | apply Kd.R_drewN | apply Kd.R_drew)); exact HO419.out))) (Kd.R_lt (by (with_reducible repeat (first | apply Kd.R_alloc | apply Kd.R_drewN | apply Kd.R_drew)); exact HO422.out))) (Kd.R_lt (by (with_reducible repeat (first | apply Kd.R_alloc | apply Kd.R_drewN | apply Kd.R_drew)); exact HO426.out))) (Kd.R_lt (by (with_reducible repeat (first | apply Kd.R_alloc | apply Kd.R_drewN | apply Kd.R_drew)); exact HO429.out))) (below_size (by repeat (first | (with_reducible first | exact HB.out | apply below_alloc | apply pw_below_drewN | apply below_drew1) | exact HB.out)))); have n7_ := Aside0.mk (below_step (by repeat (first | (with_reducible first | exact HB.out | apply below_alloc | apply pw_below_drewN | apply below_drew1) | exact HB.out)) hb); clear HO413; clear HO416; clear HO419; clear HO422; clear HO426; clear HO429; clear HB; have HO413 := n0_; have HO416 := n1_; have HO419 := n2_; have HO422 := n3_; have HO426 := n4_; have HO429 := n5_; have HO432 := n6_; have HB := n7_; clear n0_ n1_ n2_ n3_ n4_ n5_ n6_ n7_; (try clear hb); (try clear hb2); (try clear hk); (try clear hi); (try clear ho0); obtain ⟨Ao57, co57, eo57⟩ := Kd.R_slice HO429.out; subst eo57; obtain ⟨Ao58, co58, eo58⟩ := Kd.R_slice HO432.out; subst eo58) | (go_at_call 19; (with_reducible refine (span_Union.calls kj5 _ _ t427 _ _ t430 t433 _ ?side1 ?side2 ?side3 ?side4 A24.out).mono ?_); (case side1 => repeat (first | exact (Kd.R_reads' HO429.out).2.2 | (with_reducible refine Kd.C_alloc ?_ _) | (with_reducible refine Kd.C_drewN ?_ _) | (with_reducible refine Kd.C_drew ?_))); (case side2 => exact (Kd.R_reads' HO429.out).2.1); (case side3 => repeat (first | exact (Kd.R_reads' HO432.out).2.2 | (with_reducible refine Kd.C_alloc ?_ _) | (with_reducible refine Kd.C_drewN ?_ _) | (with_reducible refine Kd.C_drew ?_))); (case side4 => exact (Kd.R_reads' HO432.out).2.1); rintro e w59 ⟨v434, rfl, ho0, hb⟩; have n0_ := Aside0.mk (Kd.R_elder' (by (with_reducible repeat (first | apply Kd.R_alloc | apply Kd.R_drewN | apply Kd.R_drew)); exact HO413.out) (Kd.R_base ho0) hb); have n1_ := Aside0.mk (Kd.R_elder' (by (with_reducible repeat (first | apply Kd.R_alloc | apply Kd.R_drewN | apply Kd.R_drew)); exact HO416.out) (Kd.R_base ho0) hb); have n2_ := Aside0.mk (Kd.R_elder' (by (with_reducible repeat (first | apply Kd.R_alloc | apply Kd.R_drewN | apply Kd.R_drew)); exact HO419.out) (Kd.R_base ho0) hb); have n3_ := Aside0.mk (Kd.R_elder' (by (with_reducible repeat (first | apply Kd.R_alloc | apply Kd.R_drewN | apply Kd.R_drew)); exact HO422.out) (Kd.R_base ho0) hb); have n4_ := Aside0.mk (Kd.R_elder' (by (with_reducible repeat (first | apply Kd.R_alloc | apply Kd.R_drewN | apply Kd.R_drew)); exact HO426.out) (Kd.R_base ho0) hb); have n5_ := Aside0.mk (Kd.R_elder' (by (with_reducible repeat (first | apply Kd.R_alloc | apply Kd.R_drewN | apply Kd.R_drew)); exact HO429.out) (Kd.R_base ho0) hb); have n6_ := Aside0.mk (Kd.R_elder' (by (with_reducible repeat (first | apply Kd.R_alloc | apply Kd.R_drewN | apply Kd.R_drew)); exact HO432.out) (Kd.R_base ho0) hb); have n7_ := Aside0.mk (Kd.R_lower (Kd.R_new' (Kd.R_new' (Kd.R_new' (Kd.R_new' (Kd.R_new' (Kd.R_new' (Kd.R_new' ho0 (Kd.R_lt (by (with_reducible repeat (first | apply Kd.R_alloc | apply Kd.R_drewN | apply Kd.R_drew)); exact HO413.out))) (Kd.R_lt (by (with_reducible repeat (first | apply Kd.R_alloc | apply Kd.R_drewN | apply Kd.R_drew)); exact HO416.out))) (Kd.R_lt (by (with_reducible repeat (first | apply Kd.R_alloc | apply Kd.R_drewN | apply Kd.R_drew)); exact HO419.out))) (Kd.R_lt (by (with_reducible repeat (first | apply Kd.R_alloc | apply Kd.R_drewN | apply Kd.R_drew)); exact HO422.out))) (Kd.R_lt (by (with_reducible repeat (first | apply Kd.R_alloc | apply Kd.R_drewN | apply Kd.R_drew)); exact HO426.out))) (Kd.R_lt (by (with_reducible repeat (first | apply Kd.R_alloc | apply Kd.R_drewN | apply Kd.R_drew)); exact HO429.out))) (Kd.R_lt (by (with_reducible repeat (first | apply Kd.R_alloc | apply Kd.R_drewN | apply Kd.R_drew)); exact HO432.out))) (below_size (by repeat (first | (with_reducible first | exact HB.out | apply below_alloc | apply pw_below_drewN | apply below_drew1) | exact HB.out)))); have n8_ := Aside0.mk (below_step (by repeat (first | (with_reducible first | exact HB.out | apply below_alloc | apply pw_below_drewN | apply below_drew1) | exact HB.out)) hb); clear HO413; clear HO416; clear HO419; clear HO422; clear HO426; clear HO429; clear HO432; clear HB; have HO413 := n0_; have HO416 := n1_; have HO419 := n2_; have HO422 := n3_; have HO426 := n4_; have HO429 := n5_; have HO432 := n6_; have HO435 := n7_; have HB := n8_; clear n0_ n1_ n2_ n3_ n4_ n5_ n6_ n7_ n8_; (try clear hb); (try clear hb2); (try clear hk); (try clear hi); (try clear ho0); obtain ⟨Ao60, co60, eo60⟩ := Kd.R_slice HO435.out; subst eo60) | (go_at_call 21; (with_reducible refine (q4z.calls kj5 _ _ t433 t436 _ ?side1 ?side2 A25.out).mono ?_); (case side1 => repeat (first | exact (Kd.R_reads' HO435.out).2.2 | (with_reducible refine Kd.C_alloc ?_ _) | (with_reducible refine Kd.C_drewN ?_ _) | (with_reducible refine Kd.C_drew ?_))); (case side2 => exact (Kd.R_reads' HO435.out).2.1); rintro e w61 ⟨v437, rfl, ho0, hb⟩; have n0_ := Aside0.mk (Kd.R_elder' (by (with_reducible repeat (first | apply Kd.R_alloc | apply Kd.R_drewN | apply Kd.R_drew)); exact HO413.out) (Kd.R_base ho0) hb); have n1_ := Aside0.mk (Kd.R_elder' (by (with_reducible repeat (first | apply Kd.R_alloc | apply Kd.R_drewN | apply Kd.R_drew)); exact HO416.out) (Kd.R_base ho0) hb); have n2_ := Aside0.mk (Kd.R_elder' (by (with_reducible repeat (first | apply Kd.R_alloc | apply Kd.R_drewN | apply Kd.R_drew)); exact HO419.out) (Kd.R_base ho0) hb); have n3_ := Aside0.mk (Kd.R_elder' (by (with_reducible repeat (first | apply Kd.R_alloc | apply Kd.R_drewN | apply Kd.R_drew)); exact HO422.out) (Kd.R_base ho0) hb); have n4_ := Aside0.mk (Kd.R_elder' (by (with_reducible repeat (first | apply Kd.R_alloc | apply Kd.R_drewN | apply Kd.R_drew)); exact HO426.out) (Kd.R_base ho0) hb); have n5_ := Aside0.mk (Kd.R_elder' (by (with_reducible repeat (first | apply Kd.R_alloc | apply Kd.R_drewN | apply Kd.R_drew)); exact HO429.out) (Kd.R_base ho0) hb); have n6_ := Aside0.mk (Kd.R_elder' (by (with_reducible repeat (first | apply Kd.R_alloc | apply Kd.R_drewN | apply Kd.R_drew)); exact HO432.out) (Kd.R_base ho0) hb); have n7_ := Aside0.mk (Kd.R_elder' (by (with_reducible repeat (first | apply Kd.R_alloc | apply Kd.R_drewN | apply Kd.R_drew)); exact HO435.out) (Kd.R_base ho0) hb); have n8_ := Aside0.mk (Kd.R_lower (Kd.R_new' (Kd.R_new' (Kd.R_new' (Kd.R_new' (Kd.R_new' (Kd.R_new' (Kd.R_new' (Kd.R_new' ho0 (Kd.R_lt (by (with_reducible repeat (first | apply Kd.R_alloc | apply Kd.R_drewN | apply Kd.R_drew)); exact HO413.out))) (Kd.R_lt (by (with_reducible repeat (first | apply Kd.R_alloc | apply Kd.R_drewN | apply Kd.R_drew)); exact HO416.out))) (Kd.R_lt (by (with_reducible repeat (first | apply Kd.R_alloc | apply Kd.R_drewN | apply Kd.R_drew)); exact HO419.out))) (Kd.R_lt (by (with_reducible repeat (first | apply Kd.R_alloc | apply Kd.R_drewN | apply Kd.R_drew)); exact HO422.out))) (Kd.R_lt (by (with_reducible repeat (first | apply Kd.R_alloc | apply Kd.R_drewN | apply Kd.R_drew)); exact HO426.out))) (Kd.R_lt (by (with_reducible repeat (first | apply Kd.R_alloc | apply Kd.R_drewN | apply Kd.R_drew)); exact HO429.out))) (Kd.R_lt (by (with_reducible repeat (first | apply Kd.R_alloc | apply Kd.R_drewN | apply Kd.R_drew)); exact HO432.out))) (Kd.R_lt (by (with_reducible repeat (first | apply Kd.R_alloc | apply Kd.R_drewN | apply Kd.R_drew)); exact HO435.out))) (below_size (by repeat (first | (with_reducible first | exact HB.out | apply below_alloc | apply pw_below_drewN | apply below_drew1) | exact HB.out)))); have n9_ := Aside0.mk (below_step (by repeat (first | (with_reducible first | exact HB.out | apply below_alloc | apply pw_below_drewN | apply below_drew1) | exact HB.out)) hb); clear HO413; clear HO416; clear HO419; clear HO422; clear HO426; clear HO429; clear HO432; clear HO435; clear HB; have HO413 := n0_; have HO416 := n1_; have HO419 := n2_; have HO422 := n3_; have HO426 := n4_; have HO429 := n5_; have HO432 := n6_; have HO435 := n7_; have HO438 := n8_; have HB := n9_; clear n0_ n1_ n2_ n3_ n4_ n5_ n6_ n7_ n8_ n9_; (try clear hb); (try clear hb2); (try clear hk); (try clear hi); (try clear ho0); obtain ⟨Ao62, co62, eo62⟩ := Kd.R_slice HO426.out; subst eo62; obtain ⟨Ao63, co63, eo63⟩ := Kd.R_slice HO438.out; subst eo63) | (go_at_call 10; (with_reducible refine (q2z.calls kj5 _ _ t424 _ _ t436 false _ ?side1 ?side2 ?side3 ?side4 A26.out).mono ?_); (case side1 => repeat (first | exact (Kd.R_reads' HO426.out).2.2 | (with_reducible refine Kd.C_alloc ?_ _) | (with_reducible refine Kd.C_drewN ?_ _) | (with_reducible refine Kd.C_drew ?_))); (case side2 => exact (Kd.R_reads' HO426.out).2.1); (case side3 => repeat (first | exact (Kd.R_reads' HO438.out).2.2 | (with_reducible refine Kd.C_alloc ?_ _) | (with_reducible refine Kd.C_drewN ?_ _) | (with_reducible refine Kd.C_drew ?_))); (case side4 => exact (Kd.R_reads' HO438.out).2.1); rintro e w' ⟨rfl, ⟨nd, rfl⟩⟩))
        go_meet
        case rel => exact ⟨_, (true), (by first | rfl | (simp; done) | (simp [*]; done)), H', ⟨by have := HJ5.out; first | omega | exact Nat.le_refl _⟩, ⟨by (with_reducible repeat (first | apply Kd.R_alloc | apply Kd.R_drewN | apply Kd.R_drew)); exact Kd.R_mono HO413.out (fun _ hk => hk.1.1.1.1.1.1.1.2)⟩, ⟨by (with_reducible repeat (first | apply Kd.R_alloc | apply Kd.R_drewN | apply Kd.R_drew)); exact Kd.R_mono HO416.out (fun _ hk => hk.1.1.1.1.1.1.1.2)⟩, ⟨by repeat (first | (with_reducible first | exact HB.out | apply below_alloc | apply pw_below_drewN | apply below_drew1) | exact HB.out)⟩⟩
      ·
       replace c20 := Bool.eq_false_iff.mpr c20
       subst c20
       have H1 : (q11z.j1 kj5 l0 l1 a2 t411 t414 true) = some r := by rw [if_neg (show ¬ (false = true) by decide)] at H; exact H
       clear H
       have H := H1
       clear H1
       have H' := Aside0.mk H
       clear H
       go_wp2_with (first | ((with_reducible refine gate_callee (f := 21) rfl ?_); refine goesL_ (some 24) rfl rfl Try.func21 (by kernel_rfl) rfl #[.slice A0 l0.length c0] rfl (by (try simp only [List.map_toArray, List.map_cons, List.map_nil]); first | done | rfl | (simp only [List.length_drop, List.length_take]; rfl)) ?_; (with_reducible refine (q4z.calls kj5 _ _ l0 t417 _ ?side1 ?side2 A17.out).mono ?_); (case side1 => repeat (first | exact (Kd.C_below HR0.out HB.out) | (with_reducible refine Kd.C_alloc ?_ _) | (with_reducible refine Kd.C_drewN ?_ _) | (with_reducible refine Kd.C_drew ?_))); (case side2 => exact HC0.out); rintro e w64 ⟨v418, rfl, ho0, hb⟩; refine ⟨_, rfl, ?_⟩; have n0_ := Aside0.mk (Kd.R_elder' (by (with_reducible repeat (first | apply Kd.R_alloc | apply Kd.R_drewN | apply Kd.R_drew)); exact HO413.out) (Kd.R_base ho0) hb); have n1_ := Aside0.mk (Kd.R_elder' (by (with_reducible repeat (first | apply Kd.R_alloc | apply Kd.R_drewN | apply Kd.R_drew)); exact HO416.out) (Kd.R_base ho0) hb); have n2_ := Aside0.mk (Kd.R_lower (Kd.R_new' (Kd.R_new' ho0 (Kd.R_lt (by (with_reducible repeat (first | apply Kd.R_alloc | apply Kd.R_drewN | apply Kd.R_drew)); exact HO413.out))) (Kd.R_lt (by (with_reducible repeat (first | apply Kd.R_alloc | apply Kd.R_drewN | apply Kd.R_drew)); exact HO416.out))) (below_size (by repeat (first | (with_reducible first | exact HB.out | apply below_alloc | apply pw_below_drewN | apply below_drew1) | exact HB.out)))); have n3_ := Aside0.mk (below_step (by repeat (first | (with_reducible first | exact HB.out | apply below_alloc | apply pw_below_drewN | apply below_drew1) | exact HB.out)) hb); clear HO413; clear HO416; clear HB; have HO413 := n0_; have HO416 := n1_; have HO419 := n2_; have HB := n3_; clear n0_ n1_ n2_ n3_; (try clear hb); (try clear hb2); (try clear hk); (try clear hi); (try clear ho0); obtain ⟨Ao65, co65, eo65⟩ := Kd.R_slice HO419.out; subst eo65) | ((with_reducible refine gate_callee (f := 21) rfl ?_); refine goesL_ (some 25) rfl rfl Try.func21 (by kernel_rfl) rfl #[.slice Ao65 t417.length co65] rfl (by (try simp only [List.map_toArray, List.map_cons, List.map_nil]); first | done | rfl | (simp only [List.length_drop, List.length_take]; rfl)) ?_; (with_reducible refine (q4z.calls kj5 _ _ t417 t420 _ ?side1 ?side2 A18.out).mono ?_); (case side1 => repeat (first | exact (Kd.R_reads' HO419.out).2.2 | (with_reducible refine Kd.C_alloc ?_ _) | (with_reducible refine Kd.C_drewN ?_ _) | (with_reducible refine Kd.C_drew ?_))); (case side2 => exact (Kd.R_reads' HO419.out).2.1); rintro e w66 ⟨v421, rfl, ho0, hb⟩; refine ⟨_, rfl, ?_⟩; have n0_ := Aside0.mk (Kd.R_elder' (by (with_reducible repeat (first | apply Kd.R_alloc | apply Kd.R_drewN | apply Kd.R_drew)); exact HO413.out) (Kd.R_base ho0) hb); have n1_ := Aside0.mk (Kd.R_elder' (by (with_reducible repeat (first | apply Kd.R_alloc | apply Kd.R_drewN | apply Kd.R_drew)); exact HO416.out) (Kd.R_base ho0) hb); have n2_ := Aside0.mk (Kd.R_elder' (by (with_reducible repeat (first | apply Kd.R_alloc | apply Kd.R_drewN | apply Kd.R_drew)); exact HO419.out) (Kd.R_base ho0) hb); have n3_ := Aside0.mk (Kd.R_lower (Kd.R_new' (Kd.R_new' (Kd.R_new' ho0 (Kd.R_lt (by (with_reducible repeat (first | apply Kd.R_alloc | apply Kd.R_drewN | apply Kd.R_drew)); exact HO413.out))) (Kd.R_lt (by (with_reducible repeat (first | apply Kd.R_alloc | apply Kd.R_drewN | apply Kd.R_drew)); exact HO416.out))) (Kd.R_lt (by (with_reducible repeat (first | apply Kd.R_alloc | apply Kd.R_drewN | apply Kd.R_drew)); exact HO419.out))) (below_size (by repeat (first | (with_reducible first | exact HB.out | apply below_alloc | apply pw_below_drewN | apply below_drew1) | exact HB.out)))); have n4_ := Aside0.mk (below_step (by repeat (first | (with_reducible first | exact HB.out | apply below_alloc | apply pw_below_drewN | apply below_drew1) | exact HB.out)) hb); clear HO413; clear HO416; clear HO419; clear HB; have HO413 := n0_; have HO416 := n1_; have HO419 := n2_; have HO422 := n3_; have HB := n4_; clear n0_ n1_ n2_ n3_ n4_; (try clear hb); (try clear hb2); (try clear hk); (try clear hi); (try clear ho0); obtain ⟨Ao67, co67, eo67⟩ := Kd.R_slice HO422.out; subst eo67; obtain ⟨Ao68, co68, eo68⟩ := Kd.R_slice HO413.out; subst eo68) | ((with_reducible refine gate_callee (f := 10) rfl ?_); refine goesL_ (some 27) rfl rfl Try.func10 (by kernel_rfl) rfl #[.slice Ao67 t420.length co67, .slice Ao68 t411.length co68] rfl (by (try simp only [List.map_toArray, List.map_cons, List.map_nil]); first | done | rfl | (simp only [List.length_drop, List.length_take]; rfl)) ?_; (with_reducible refine (q2z.calls kj5 _ _ t420 _ _ t411 false _ ?side1 ?side2 ?side3 ?side4 A19.out).mono ?_); (case side1 => repeat (first | exact (Kd.R_reads' HO422.out).2.2 | (with_reducible refine Kd.C_alloc ?_ _) | (with_reducible refine Kd.C_drewN ?_ _) | (with_reducible refine Kd.C_drew ?_))); (case side2 => exact (Kd.R_reads' HO422.out).2.1); (case side3 => repeat (first | exact (Kd.R_reads' HO413.out).2.2 | (with_reducible refine Kd.C_alloc ?_ _) | (with_reducible refine Kd.C_drewN ?_ _) | (with_reducible refine Kd.C_drew ?_))); (case side4 => exact (Kd.R_reads' HO413.out).2.1); rintro e w' ⟨rfl, ⟨nd, rfl⟩⟩; refine ⟨_, rfl, ?_⟩))
       go_meet
       case rel => exact ⟨_, (true), (by first | rfl | (simp; done) | (simp [*]; done)), H', ⟨by have := HJ5.out; first | omega | exact Nat.le_refl _⟩, ⟨by (with_reducible repeat (first | apply Kd.R_alloc | apply Kd.R_drewN | apply Kd.R_drew)); exact Kd.R_mono HO413.out (fun _ hk => hk.1.1.2)⟩, ⟨by (with_reducible repeat (first | apply Kd.R_alloc | apply Kd.R_drewN | apply Kd.R_drew)); exact Kd.R_mono HO416.out (fun _ hk => hk.1.1.2)⟩, ⟨by repeat (first | (with_reducible first | exact HB.out | apply below_alloc | apply pw_below_drewN | apply below_drew1) | exact HB.out)⟩⟩
     case rest =>
      clear HC14
      try clear c1
      try clear c2
      try clear p2
      try clear c5
      try clear c7
      try clear c8
      try clear c9
      try clear c10
      try clear c11
      try clear c14
      try clear c20
      try clear c21
      try clear c27
      try clear p2
      obtain ⟨kq, x49_13, rfl, HA, HJ13, HO_7, HO_8, HB⟩ := hcut
      cases kq with
      | zero => exact absurd HA.out (by simp [q11z.j1])
      | succ kj13 =>
       have H := HA.out
       clear HA
       simp only [q11z.j1] at H
       by_cases c69 : x49_13 = true
       ·
        subst c69
        have H1 : (some false) = some r := by rw [if_pos rfl] at H; exact H
        clear H
        have H := H1
        clear H1
        obtain rfl := Option.some.inj H
        go_wp2
        go_ret
        exact ⟨by first | rfl | (simp [errW_none, errW_some] <;> rfl) | (simp [*, errW_none, errW_some] <;> rfl), by repeat (first | (with_reducible first | exact HB.out | apply below_alloc | apply pw_below_drewN | apply below_drew1) | exact HB.out)⟩
       ·
        replace c69 := Bool.eq_false_iff.mpr c69
        subst c69
        have H1 : ((q4z.f kj13 l0).bind fun t446 => ((span_Union.f kj13 l0 t446).bind fun t449 => ((span_Union.f kj13 t411 t414).bind fun t452 => (if (t449.length : Int) = 1 then (if 0 < (t449.length : Int) then (if (((rd_T33 t449 0).f0) == 0 && (((rd_T33 t449 0).f1) == 4294967295)) = true then ((span_Union.f kj13 l1 l0).bind fun t456 => ((q2z.f kj13 t452 t456).bind fun t459 => (if t459 = true then ((span_In.f t452 a2).bind fun t460 => ((span_In.f l0 a2).bind fun t461 => (if t461 = true then (if (t460 == true) = true then ((q1z.f kj13 t452).bind fun t462 => ((q2z.f kj13 t462 t452).bind fun t465 => (some t465))) else (some false)) else ((span_In.f l1 a2).bind fun t466 => (if (t460 == t466) = true then ((q1z.f kj13 t452).bind fun t467 => ((q2z.f kj13 t467 t452).bind fun t470 => (some t470))) else (some false)))))) else (some false)))) else (some false)) else (none)) else (some false))))) = some r := by rw [if_neg (show ¬ (false = true) by decide)] at H; exact H
        clear H
        have H := H1
        clear H1
        replace H := Option.bind_eq_some_iff.mp H
        obtain ⟨t446, A700, H⟩ := H
        replace H : ((span_Union.f kj13 l0 t446).bind fun t449 => ((span_Union.f kj13 t411 t414).bind fun t452 => (if (t449.length : Int) = 1 then (if 0 < (t449.length : Int) then (if (((rd_T33 t449 0).f0) == 0 && (((rd_T33 t449 0).f1) == 4294967295)) = true then ((span_Union.f kj13 l1 l0).bind fun t456 => ((q2z.f kj13 t452 t456).bind fun t459 => (if t459 = true then ((span_In.f t452 a2).bind fun t460 => ((span_In.f l0 a2).bind fun t461 => (if t461 = true then (if (t460 == true) = true then ((q1z.f kj13 t452).bind fun t462 => ((q2z.f kj13 t462 t452).bind fun t465 => (some t465))) else (some false)) else ((span_In.f l1 a2).bind fun t466 => (if (t460 == t466) = true then ((q1z.f kj13 t452).bind fun t467 => ((q2z.f kj13 t467 t452).bind fun t470 => (some t470))) else (some false)))))) else (some false)))) else (some false)) else (none)) else (some false)))) = some r := H
        have A70 := Aside0.mk A700
        clear A700
        replace H := Option.bind_eq_some_iff.mp H
        obtain ⟨t449, A710, H⟩ := H
        replace H : ((span_Union.f kj13 t411 t414).bind fun t452 => (if (t449.length : Int) = 1 then (if 0 < (t449.length : Int) then (if (((rd_T33 t449 0).f0) == 0 && (((rd_T33 t449 0).f1) == 4294967295)) = true then ((span_Union.f kj13 l1 l0).bind fun t456 => ((q2z.f kj13 t452 t456).bind fun t459 => (if t459 = true then ((span_In.f t452 a2).bind fun t460 => ((span_In.f l0 a2).bind fun t461 => (if t461 = true then (if (t460 == true) = true then ((q1z.f kj13 t452).bind fun t462 => ((q2z.f kj13 t462 t452).bind fun t465 => (some t465))) else (some false)) else ((span_In.f l1 a2).bind fun t466 => (if (t460 == t466) = true then ((q1z.f kj13 t452).bind fun t467 => ((q2z.f kj13 t467 t452).bind fun t470 => (some t470))) else (some false)))))) else (some false)))) else (some false)) else (none)) else (some false))) = some r := H
        have A71 := Aside0.mk A710
        clear A710
        replace H := Option.bind_eq_some_iff.mp H
        obtain ⟨t452, A720, H⟩ := H
        replace H : (if (t449.length : Int) = 1 then (if 0 < (t449.length : Int) then (if (((rd_T33 t449 0).f0) == 0 && (((rd_T33 t449 0).f1) == 4294967295)) = true then ((span_Union.f kj13 l1 l0).bind fun t456 => ((q2z.f kj13 t452 t456).bind fun t459 => (if t459 = true then ((span_In.f t452 a2).bind fun t460 => ((span_In.f l0 a2).bind fun t461 => (if t461 = true then (if (t460 == true) = true then ((q1z.f kj13 t452).bind fun t462 => ((q2z.f kj13 t462 t452).bind fun t465 => (some t465))) else (some false)) else ((span_In.f l1 a2).bind fun t466 => (if (t460 == t466) = true then ((q1z.f kj13 t452).bind fun t467 => ((q2z.f kj13 t467 t452).bind fun t470 => (some t470))) else (some false)))))) else (some false)))) else (some false)) else (none)) else (some false)) = some r := H
        have A72 := Aside0.mk A720
        clear A720
        by_cases c73 : (t449.length : Int) = 1
        ·
         rw [if_pos c73] at H
         have c73b0 : ((t449.length : Int) == 1) = true := beq_iff_eq.mpr c73
         have c73b1 : ((t449.length : Int) != 1) = false := bne_eq_false_iff_eq.mpr c73
         clear c73
         by_cases c74 : 0 < (t449.length : Int)
         ·
          rw [if_pos c74] at H
          have c74b0 : decide (0 < (t449.length : Int)) = true := decide_eq_true c74
          have c74b1 : decide (0 < t449.length) = true := decide_eq_true (by omega)
          clear c74
          by_cases c75 : (((rd_T33 t449 0).f0) == 0 && (((rd_T33 t449 0).f1) == 4294967295)) = true
          ·
           rw [if_pos c75] at H
           have c75b0 : (((rd_T33 t449 0).f0) == 0 && (((rd_T33 t449 0).f1) == 4294967295)) = true := c75
           (try (have c75b1 : decide (((rd_T33 t449 0).f0) = 0 && (((rd_T33 t449 0).f1) == 4294967295)) = true := by simpa using c75))
           (try (have c75b2 : (((rd_T33 t449 0).f0) == 0 && (((rd_T33 t449 0).f1) == 4294967295)) = true := by simpa using c75))
           clear c75
           replace H := Option.bind_eq_some_iff.mp H
           obtain ⟨t456, A760, H⟩ := H
           replace H : ((q2z.f kj13 t452 t456).bind fun t459 => (if t459 = true then ((span_In.f t452 a2).bind fun t460 => ((span_In.f l0 a2).bind fun t461 => (if t461 = true then (if (t460 == true) = true then ((q1z.f kj13 t452).bind fun t462 => ((q2z.f kj13 t462 t452).bind fun t465 => (some t465))) else (some false)) else ((span_In.f l1 a2).bind fun t466 => (if (t460 == t466) = true then ((q1z.f kj13 t452).bind fun t467 => ((q2z.f kj13 t467 t452).bind fun t470 => (some t470))) else (some false)))))) else (some false))) = some r := H
           have A76 := Aside0.mk A760
           clear A760
           replace H := Option.bind_eq_some_iff.mp H
           obtain ⟨t459, A770, H⟩ := H
           replace H : (if t459 = true then ((span_In.f t452 a2).bind fun t460 => ((span_In.f l0 a2).bind fun t461 => (if t461 = true then (if (t460 == true) = true then ((q1z.f kj13 t452).bind fun t462 => ((q2z.f kj13 t462 t452).bind fun t465 => (some t465))) else (some false)) else ((span_In.f l1 a2).bind fun t466 => (if (t460 == t466) = true then ((q1z.f kj13 t452).bind fun t467 => ((q2z.f kj13 t467 t452).bind fun t470 => (some t470))) else (some false)))))) else (some false)) = some r := H
           have A77 := Aside0.mk A770
           clear A770
           by_cases c78 : t459 = true
           ·
            subst c78
            have H1 : ((span_In.f t452 a2).bind fun t460 => ((span_In.f l0 a2).bind fun t461 => (if t461 = true then (if (t460 == true) = true then ((q1z.f kj13 t452).bind fun t462 => ((q2z.f kj13 t462 t452).bind fun t465 => (some t465))) else (some false)) else ((span_In.f l1 a2).bind fun t466 => (if (t460 == t466) = true then ((q1z.f kj13 t452).bind fun t467 => ((q2z.f kj13 t467 t452).bind fun t470 => (some t470))) else (some false)))))) = some r := by rw [if_pos rfl] at H; exact H
            clear H
            have H := H1
            clear H1
            replace H := Option.bind_eq_some_iff.mp H
            obtain ⟨t460, A790, H⟩ := H
            replace H : ((span_In.f l0 a2).bind fun t461 => (if t461 = true then (if (t460 == true) = true then ((q1z.f kj13 t452).bind fun t462 => ((q2z.f kj13 t462 t452).bind fun t465 => (some t465))) else (some false)) else ((span_In.f l1 a2).bind fun t466 => (if (t460 == t466) = true then ((q1z.f kj13 t452).bind fun t467 => ((q2z.f kj13 t467 t452).bind fun t470 => (some t470))) else (some false))))) = some r := H
            have A79 := Aside0.mk A790
            clear A790
            replace H := Option.bind_eq_some_iff.mp H
            obtain ⟨t461, A800, H⟩ := H
            replace H : (if t461 = true then (if (t460 == true) = true then ((q1z.f kj13 t452).bind fun t462 => ((q2z.f kj13 t462 t452).bind fun t465 => (some t465))) else (some false)) else ((span_In.f l1 a2).bind fun t466 => (if (t460 == t466) = true then ((q1z.f kj13 t452).bind fun t467 => ((q2z.f kj13 t467 t452).bind fun t470 => (some t470))) else (some false)))) = some r := H
            have A80 := Aside0.mk A800
            clear A800
            by_cases c81 : t461 = true
            ·
             subst c81
             have H1 : (if (t460 == true) = true then ((q1z.f kj13 t452).bind fun t462 => ((q2z.f kj13 t462 t452).bind fun t465 => (some t465))) else (some false)) = some r := by rw [if_pos rfl] at H; exact H
             clear H
             have H := H1
             clear H1
             by_cases c82 : (t460 == true) = true
             ·
              rw [if_pos c82] at H
              have c82b0 : (t460 == true) = true := c82
              (try (have c82b1 : decide (t460 = true) = true := by simpa using c82))
              (try (have c82b2 : (t460 == true) = true := by simpa using c82))
              clear c82
              replace H := Option.bind_eq_some_iff.mp H
              obtain ⟨t462, A830, H⟩ := H
              replace H : ((q2z.f kj13 t462 t452).bind fun t465 => (some t465)) = some r := H
              have A83 := Aside0.mk A830
              clear A830
              replace H := Option.bind_eq_some_iff.mp H
              obtain ⟨t465, A840, H⟩ := H
              replace H : (some t465) = some r := H
              have A84 := Aside0.mk A840
              clear A840
              obtain rfl := Option.some.inj H
              go_wp2_with (first | ((with_reducible refine gate_callee (f := 21) rfl ?_); refine goesL_ (some 52) rfl rfl Try.func21 (by kernel_rfl) rfl #[.slice A0 l0.length c0] rfl (by (try simp only [List.map_toArray, List.map_cons, List.map_nil]); first | done | rfl | (simp only [List.length_drop, List.length_take]; rfl)) ?_; (with_reducible refine (q4z.calls kj13 _ _ l0 t446 _ ?side1 ?side2 A70.out).mono ?_); (case side1 => repeat (first | exact (Kd.C_below HR0.out HB.out) | (with_reducible refine Kd.C_alloc ?_ _) | (with_reducible refine Kd.C_drewN ?_ _) | (with_reducible refine Kd.C_drew ?_))); (case side2 => exact HC0.out); rintro e w85 ⟨v447, rfl, ho0, hb⟩; refine ⟨_, rfl, ?_⟩; have n0_ := Aside0.mk (Kd.R_elder' (by (with_reducible repeat (first | apply Kd.R_alloc | apply Kd.R_drewN | apply Kd.R_drew)); exact HO_7.out) (Kd.R_base ho0) hb); have n1_ := Aside0.mk (Kd.R_elder' (by (with_reducible repeat (first | apply Kd.R_alloc | apply Kd.R_drewN | apply Kd.R_drew)); exact HO_8.out) (Kd.R_base ho0) hb); have n2_ := Aside0.mk (Kd.R_lower (Kd.R_new' (Kd.R_new' ho0 (Kd.R_lt (by (with_reducible repeat (first | apply Kd.R_alloc | apply Kd.R_drewN | apply Kd.R_drew)); exact HO_7.out))) (Kd.R_lt (by (with_reducible repeat (first | apply Kd.R_alloc | apply Kd.R_drewN | apply Kd.R_drew)); exact HO_8.out))) (below_size (by repeat (first | (with_reducible first | exact HB.out | apply below_alloc | apply pw_below_drewN | apply below_drew1) | exact HB.out)))); have n3_ := Aside0.mk (below_step (by repeat (first | (with_reducible first | exact HB.out | apply below_alloc | apply pw_below_drewN | apply below_drew1) | exact HB.out)) hb); clear HO_7; clear HO_8; clear HB; have HO_7 := n0_; have HO_8 := n1_; have HO448 := n2_; have HB := n3_; clear n0_ n1_ n2_ n3_; (try clear hb); (try clear hb2); (try clear hk); (try clear hi); (try clear ho0); obtain ⟨Ao86, co86, eo86⟩ := Kd.R_slice HO448.out; subst eo86) | ((with_reducible refine gate_callee (f := 19) rfl ?_); refine goesL_ (some 53) rfl rfl Try.func19 (by kernel_rfl) rfl #[.slice A0 l0.length c0, .slice Ao86 t446.length co86] rfl (by (try simp only [List.map_toArray, List.map_cons, List.map_nil]); first | done | rfl | (simp only [List.length_drop, List.length_take]; rfl)) ?_; (with_reducible refine (span_Union.calls kj13 _ _ l0 _ _ t446 t449 _ ?side1 ?side2 ?side3 ?side4 A71.out).mono ?_); (case side1 => repeat (first | exact (Kd.C_below HR0.out HB.out) | (with_reducible refine Kd.C_alloc ?_ _) | (with_reducible refine Kd.C_drewN ?_ _) | (with_reducible refine Kd.C_drew ?_))); (case side2 => exact HC0.out); (case side3 => repeat (first | exact (Kd.R_reads' HO448.out).2.2 | (with_reducible refine Kd.C_alloc ?_ _) | (with_reducible refine Kd.C_drewN ?_ _) | (with_reducible refine Kd.C_drew ?_))); (case side4 => exact (Kd.R_reads' HO448.out).2.1); rintro e w87 ⟨v450, rfl, ho0, hb⟩; refine ⟨_, rfl, ?_⟩; have n0_ := Aside0.mk (Kd.R_elder' (by (with_reducible repeat (first | apply Kd.R_alloc | apply Kd.R_drewN | apply Kd.R_drew)); exact HO_7.out) (Kd.R_base ho0) hb); have n1_ := Aside0.mk (Kd.R_elder' (by (with_reducible repeat (first | apply Kd.R_alloc | apply Kd.R_drewN | apply Kd.R_drew)); exact HO_8.out) (Kd.R_base ho0) hb); have n2_ := Aside0.mk (Kd.R_elder' (by (with_reducible repeat (first | apply Kd.R_alloc | apply Kd.R_drewN | apply Kd.R_drew)); exact HO448.out) (Kd.R_base ho0) hb); have n3_ := Aside0.mk (Kd.R_lower (Kd.R_new' (Kd.R_new' (Kd.R_new' ho0 (Kd.R_lt (by (with_reducible repeat (first | apply Kd.R_alloc | apply Kd.R_drewN | apply Kd.R_drew)); exact HO_7.out))) (Kd.R_lt (by (with_reducible repeat (first | apply Kd.R_alloc | apply Kd.R_drewN | apply Kd.R_drew)); exact HO_8.out))) (Kd.R_lt (by (with_reducible repeat (first | apply Kd.R_alloc | apply Kd.R_drewN | apply Kd.R_drew)); exact HO448.out))) (below_size (by repeat (first | (with_reducible first | exact HB.out | apply below_alloc | apply pw_below_drewN | apply below_drew1) | exact HB.out)))); have n4_ := Aside0.mk (below_step (by repeat (first | (with_reducible first | exact HB.out | apply below_alloc | apply pw_below_drewN | apply below_drew1) | exact HB.out)) hb); clear HO_7; clear HO_8; clear HO448; clear HB; have HO_7 := n0_; have HO_8 := n1_; have HO448 := n2_; have HO451 := n3_; have HB := n4_; clear n0_ n1_ n2_ n3_ n4_; (try clear hb); (try clear hb2); (try clear hk); (try clear hi); (try clear ho0); obtain ⟨Ao88, co88, eo88⟩ := Kd.R_slice HO_7.out; subst eo88; obtain ⟨Ao89, co89, eo89⟩ := Kd.R_slice HO_8.out; subst eo89) | ((with_reducible refine gate_callee (f := 19) rfl ?_); refine goesL_ (some 56) rfl rfl Try.func19 (by kernel_rfl) rfl #[.slice Ao88 t411.length co88, .slice Ao89 t414.length co89] rfl (by (try simp only [List.map_toArray, List.map_cons, List.map_nil]); first | done | rfl | (simp only [List.length_drop, List.length_take]; rfl)) ?_; (with_reducible refine (span_Union.calls kj13 _ _ t411 _ _ t414 t452 _ ?side1 ?side2 ?side3 ?side4 A72.out).mono ?_); (case side1 => repeat (first | exact (Kd.R_reads' HO_7.out).2.2 | (with_reducible refine Kd.C_alloc ?_ _) | (with_reducible refine Kd.C_drewN ?_ _) | (with_reducible refine Kd.C_drew ?_))); (case side2 => exact (Kd.R_reads' HO_7.out).2.1); (case side3 => repeat (first | exact (Kd.R_reads' HO_8.out).2.2 | (with_reducible refine Kd.C_alloc ?_ _) | (with_reducible refine Kd.C_drewN ?_ _) | (with_reducible refine Kd.C_drew ?_))); (case side4 => exact (Kd.R_reads' HO_8.out).2.1); rintro e w90 ⟨v453, rfl, ho0, hb⟩; refine ⟨_, rfl, ?_⟩; have n0_ := Aside0.mk (Kd.R_elder' (by (with_reducible repeat (first | apply Kd.R_alloc | apply Kd.R_drewN | apply Kd.R_drew)); exact HO_7.out) (Kd.R_base ho0) hb); have n1_ := Aside0.mk (Kd.R_elder' (by (with_reducible repeat (first | apply Kd.R_alloc | apply Kd.R_drewN | apply Kd.R_drew)); exact HO_8.out) (Kd.R_base ho0) hb); have n2_ := Aside0.mk (Kd.R_elder' (by (with_reducible repeat (first | apply Kd.R_alloc | apply Kd.R_drewN | apply Kd.R_drew)); exact HO448.out) (Kd.R_base ho0) hb); have n3_ := Aside0.mk (Kd.R_elder' (by (with_reducible repeat (first | apply Kd.R_alloc | apply Kd.R_drewN | apply Kd.R_drew)); exact HO451.out) (Kd.R_base ho0) hb); have n4_ := Aside0.mk (Kd.R_lower (Kd.R_new' (Kd.R_new' (Kd.R_new' (Kd.R_new' ho0 (Kd.R_lt (by (with_reducible repeat (first | apply Kd.R_alloc | apply Kd.R_drewN | apply Kd.R_drew)); exact HO_7.out))) (Kd.R_lt (by (with_reducible repeat (first | apply Kd.R_alloc | apply Kd.R_drewN | apply Kd.R_drew)); exact HO_8.out))) (Kd.R_lt (by (with_reducible repeat (first | apply Kd.R_alloc | apply Kd.R_drewN | apply Kd.R_drew)); exact HO448.out))) (Kd.R_lt (by (with_reducible repeat (first | apply Kd.R_alloc | apply Kd.R_drewN | apply Kd.R_drew)); exact HO451.out))) (below_size (by repeat (first | (with_reducible first | exact HB.out | apply below_alloc | apply pw_below_drewN | apply below_drew1) | exact HB.out)))); have n5_ := Aside0.mk (below_step (by repeat (first | (with_reducible first | exact HB.out | apply below_alloc | apply pw_below_drewN | apply below_drew1) | exact HB.out)) hb); clear HO_7; clear HO_8; clear HO448; clear HO451; clear HB; have HO_7 := n0_; have HO_8 := n1_; have HO448 := n2_; have HO451 := n3_; have HO454 := n4_; have HB := n5_; clear n0_ n1_ n2_ n3_ n4_ n5_; (try clear hb); (try clear hb2); (try clear hk); (try clear hi); (try clear ho0); obtain ⟨Ao91, co91, eo91⟩ := Kd.R_slice HO451.out; subst eo91; have p455 : 0 ≤ (0 : Int) := (by omega); have q455 : 0 < (t449.length : Int) := of_decide_eq_true (by first | (with_reducible assumption) | assumption); obtain ⟨ad455, e455, hx455_0, hx455_1⟩ := at_T33 (Kd.R_reads' HO451.out).2.2 0 p455 q455; cases e455; have qi455 : (0 < t449.length) = True := eq_true (by omega); (try rw [show ((0 : Int)).toNat = 0 from rfl] at hx455_0); (try rw [show 0 * 2 = 0 from rfl] at hx455_0); (try rw [Addr.add_zero'] at hx455_0); (try rw [show ((0 : Int)).toNat = 0 from rfl] at hx455_1); (try rw [show 0 * 2 = 0 from rfl] at hx455_1); (try rw [Addr.add_zero'] at hx455_1); replace p455 := eq_true p455; replace q455 := eq_true q455) | (go_at_call 19; (with_reducible refine (span_Union.calls kj13 _ _ l1 _ _ l0 t456 _ ?side1 ?side2 ?side3 ?side4 A76.out).mono ?_); (case side1 => repeat (first | exact (Kd.C_below HR1.out HB.out) | (with_reducible refine Kd.C_alloc ?_ _) | (with_reducible refine Kd.C_drewN ?_ _) | (with_reducible refine Kd.C_drew ?_))); (case side2 => exact HC1.out); (case side3 => repeat (first | exact (Kd.C_below HR0.out HB.out) | (with_reducible refine Kd.C_alloc ?_ _) | (with_reducible refine Kd.C_drewN ?_ _) | (with_reducible refine Kd.C_drew ?_))); (case side4 => exact HC0.out); rintro e w92 ⟨v457, rfl, ho0, hb⟩; have n0_ := Aside0.mk (Kd.R_elder' (by (with_reducible repeat (first | apply Kd.R_alloc | apply Kd.R_drewN | apply Kd.R_drew)); exact HO_7.out) (Kd.R_base ho0) hb); have n1_ := Aside0.mk (Kd.R_elder' (by (with_reducible repeat (first | apply Kd.R_alloc | apply Kd.R_drewN | apply Kd.R_drew)); exact HO_8.out) (Kd.R_base ho0) hb); have n2_ := Aside0.mk (Kd.R_elder' (by (with_reducible repeat (first | apply Kd.R_alloc | apply Kd.R_drewN | apply Kd.R_drew)); exact HO448.out) (Kd.R_base ho0) hb); have n3_ := Aside0.mk (Kd.R_elder' (by (with_reducible repeat (first | apply Kd.R_alloc | apply Kd.R_drewN | apply Kd.R_drew)); exact HO451.out) (Kd.R_base ho0) hb); have n4_ := Aside0.mk (Kd.R_elder' (by (with_reducible repeat (first | apply Kd.R_alloc | apply Kd.R_drewN | apply Kd.R_drew)); exact HO454.out) (Kd.R_base ho0) hb); have n5_ := Aside0.mk (Kd.R_lower (Kd.R_new' (Kd.R_new' (Kd.R_new' (Kd.R_new' (Kd.R_new' ho0 (Kd.R_lt (by (with_reducible repeat (first | apply Kd.R_alloc | apply Kd.R_drewN | apply Kd.R_drew)); exact HO_7.out))) (Kd.R_lt (by (with_reducible repeat (first | apply Kd.R_alloc | apply Kd.R_drewN | apply Kd.R_drew)); exact HO_8.out))) (Kd.R_lt (by (with_reducible repeat (first | apply Kd.R_alloc | apply Kd.R_drewN | apply Kd.R_drew)); exact HO448.out))) (Kd.R_lt (by (with_reducible repeat (first | apply Kd.R_alloc | apply Kd.R_drewN | apply Kd.R_drew)); exact HO451.out))) (Kd.R_lt (by (with_reducible repeat (first | apply Kd.R_alloc | apply Kd.R_drewN | apply Kd.R_drew)); exact HO454.out))) (below_size (by repeat (first | (with_reducible first | exact HB.out | apply below_alloc | apply pw_below_drewN | apply below_drew1) | exact HB.out)))); have n6_ := Aside0.mk (below_step (by repeat (first | (with_reducible first | exact HB.out | apply below_alloc | apply pw_below_drewN | apply below_drew1) | exact HB.out)) hb); clear HO_7; clear HO_8; clear HO448; clear HO451; clear HO454; clear HB; have HO_7 := n0_; have HO_8 := n1_; have HO448 := n2_; have HO451 := n3_; have HO454 := n4_; have HO458 := n5_; have HB := n6_; clear n0_ n1_ n2_ n3_ n4_ n5_ n6_; (try clear hb); (try clear hb2); (try clear hk); (try clear hi); (try clear ho0); obtain ⟨Ao93, co93, eo93⟩ := Kd.R_slice HO454.out; subst eo93; obtain ⟨Ao94, co94, eo94⟩ := Kd.R_slice HO458.out; subst eo94) | (go_at_call 10; (with_reducible refine (q2z.calls kj13 _ _ t452 _ _ t456 true _ ?side1 ?side2 ?side3 ?side4 A77.out).mono ?_); (case side1 => repeat (first | exact (Kd.R_reads' HO454.out).2.2 | (with_reducible refine Kd.C_alloc ?_ _) | (with_reducible refine Kd.C_drewN ?_ _) | (with_reducible refine Kd.C_drew ?_))); (case side2 => exact (Kd.R_reads' HO454.out).2.1); (case side3 => repeat (first | exact (Kd.R_reads' HO458.out).2.2 | (with_reducible refine Kd.C_alloc ?_ _) | (with_reducible refine Kd.C_drewN ?_ _) | (with_reducible refine Kd.C_drew ?_))); (case side4 => exact (Kd.R_reads' HO458.out).2.1); rintro e w' ⟨rfl, ⟨nd, rfl⟩⟩) | (go_at_call 16; (with_reducible refine (span_In.calls _ _ t452 a2 t460 _ ?side1 ?side2 A79.out).mono ?_); (case side1 => repeat (first | exact (Kd.R_reads' HO454.out).2.2 | (with_reducible refine Kd.C_alloc ?_ _) | (with_reducible refine Kd.C_drewN ?_ _) | (with_reducible refine Kd.C_drew ?_))); (case side2 => exact (Kd.R_reads' HO454.out).2.1); rintro e w95 ⟨rfl, hb⟩; have n0_ := Aside0.mk (Kd.R_below (by (with_reducible repeat (first | apply Kd.R_alloc | apply Kd.R_drewN | apply Kd.R_drew)); exact HO_7.out) hb); have n1_ := Aside0.mk (Kd.R_below (by (with_reducible repeat (first | apply Kd.R_alloc | apply Kd.R_drewN | apply Kd.R_drew)); exact HO_8.out) hb); have n2_ := Aside0.mk (Kd.R_below (by (with_reducible repeat (first | apply Kd.R_alloc | apply Kd.R_drewN | apply Kd.R_drew)); exact HO448.out) hb); have n3_ := Aside0.mk (Kd.R_below (by (with_reducible repeat (first | apply Kd.R_alloc | apply Kd.R_drewN | apply Kd.R_drew)); exact HO451.out) hb); have n4_ := Aside0.mk (Kd.R_below (by (with_reducible repeat (first | apply Kd.R_alloc | apply Kd.R_drewN | apply Kd.R_drew)); exact HO454.out) hb); have n5_ := Aside0.mk (Kd.R_below (by (with_reducible repeat (first | apply Kd.R_alloc | apply Kd.R_drewN | apply Kd.R_drew)); exact HO458.out) hb); have n6_ := Aside0.mk (below_step (by repeat (first | (with_reducible first | exact HB.out | apply below_alloc | apply pw_below_drewN | apply below_drew1) | exact HB.out)) hb); clear HO_7; clear HO_8; clear HO448; clear HO451; clear HO454; clear HO458; clear HB; have HO_7 := n0_; have HO_8 := n1_; have HO448 := n2_; have HO451 := n3_; have HO454 := n4_; have HO458 := n5_; have HB := n6_; clear n0_ n1_ n2_ n3_ n4_ n5_ n6_; (try clear hb); (try clear hb2); (try clear hk); (try clear hi)) | (go_at_call 16; (with_reducible refine (span_In.calls _ _ l0 a2 true _ ?side1 ?side2 A80.out).mono ?_); (case side1 => repeat (first | exact (Kd.C_below HR0.out HB.out) | (with_reducible refine Kd.C_alloc ?_ _) | (with_reducible refine Kd.C_drewN ?_ _) | (with_reducible refine Kd.C_drew ?_))); (case side2 => exact HC0.out); rintro e w96 ⟨rfl, hb⟩; have n0_ := Aside0.mk (Kd.R_below (by (with_reducible repeat (first | apply Kd.R_alloc | apply Kd.R_drewN | apply Kd.R_drew)); exact HO_7.out) hb); have n1_ := Aside0.mk (Kd.R_below (by (with_reducible repeat (first | apply Kd.R_alloc | apply Kd.R_drewN | apply Kd.R_drew)); exact HO_8.out) hb); have n2_ := Aside0.mk (Kd.R_below (by (with_reducible repeat (first | apply Kd.R_alloc | apply Kd.R_drewN | apply Kd.R_drew)); exact HO448.out) hb); have n3_ := Aside0.mk (Kd.R_below (by (with_reducible repeat (first | apply Kd.R_alloc | apply Kd.R_drewN | apply Kd.R_drew)); exact HO451.out) hb); have n4_ := Aside0.mk (Kd.R_below (by (with_reducible repeat (first | apply Kd.R_alloc | apply Kd.R_drewN | apply Kd.R_drew)); exact HO454.out) hb); have n5_ := Aside0.mk (Kd.R_below (by (with_reducible repeat (first | apply Kd.R_alloc | apply Kd.R_drewN | apply Kd.R_drew)); exact HO458.out) hb); have n6_ := Aside0.mk (below_step (by repeat (first | (with_reducible first | exact HB.out | apply below_alloc | apply pw_below_drewN | apply below_drew1) | exact HB.out)) hb); clear HO_7; clear HO_8; clear HO448; clear HO451; clear HO454; clear HO458; clear HB; have HO_7 := n0_; have HO_8 := n1_; have HO448 := n2_; have HO451 := n3_; have HO454 := n4_; have HO458 := n5_; have HB := n6_; clear n0_ n1_ n2_ n3_ n4_ n5_ n6_; (try clear hb); (try clear hb2); (try clear hk); (try clear hi)) | (go_at_call 14; (with_reducible refine (q1z.calls kj13 _ _ t452 t462 _ ?side1 ?side2 A83.out).mono ?_); (case side1 => repeat (first | exact (Kd.R_reads' HO454.out).2.2 | (with_reducible refine Kd.C_alloc ?_ _) | (with_reducible refine Kd.C_drewN ?_ _) | (with_reducible refine Kd.C_drew ?_))); (case side2 => exact (Kd.R_reads' HO454.out).2.1); rintro e w97 ⟨v463, rfl, ho0, hb⟩; have n0_ := Aside0.mk (Kd.R_elder' (by (with_reducible repeat (first | apply Kd.R_alloc | apply Kd.R_drewN | apply Kd.R_drew)); exact HO_7.out) (Kd.R_base ho0) hb); have n1_ := Aside0.mk (Kd.R_elder' (by (with_reducible repeat (first | apply Kd.R_alloc | apply Kd.R_drewN | apply Kd.R_drew)); exact HO_8.out) (Kd.R_base ho0) hb); have n2_ := Aside0.mk (Kd.R_elder' (by (with_reducible repeat (first | apply Kd.R_alloc | apply Kd.R_drewN | apply Kd.R_drew)); exact HO448.out) (Kd.R_base ho0) hb); have n3_ := Aside0.mk (Kd.R_elder' (by (with_reducible repeat (first | apply Kd.R_alloc | apply Kd.R_drewN | apply Kd.R_drew)); exact HO451.out) (Kd.R_base ho0) hb); have n4_ := Aside0.mk (Kd.R_elder' (by (with_reducible repeat (first | apply Kd.R_alloc | apply Kd.R_drewN | apply Kd.R_drew)); exact HO454.out) (Kd.R_base ho0) hb); have n5_ := Aside0.mk (Kd.R_elder' (by (with_reducible repeat (first | apply Kd.R_alloc | apply Kd.R_drewN | apply Kd.R_drew)); exact HO458.out) (Kd.R_base ho0) hb); have n6_ := Aside0.mk (Kd.R_lower (Kd.R_new' (Kd.R_new' (Kd.R_new' (Kd.R_new' (Kd.R_new' (Kd.R_new' ho0 (Kd.R_lt (by (with_reducible repeat (first | apply Kd.R_alloc | apply Kd.R_drewN | apply Kd.R_drew)); exact HO_7.out))) (Kd.R_lt (by (with_reducible repeat (first | apply Kd.R_alloc | apply Kd.R_drewN | apply Kd.R_drew)); exact HO_8.out))) (Kd.R_lt (by (with_reducible repeat (first | apply Kd.R_alloc | apply Kd.R_drewN | apply Kd.R_drew)); exact HO448.out))) (Kd.R_lt (by (with_reducible repeat (first | apply Kd.R_alloc | apply Kd.R_drewN | apply Kd.R_drew)); exact HO451.out))) (Kd.R_lt (by (with_reducible repeat (first | apply Kd.R_alloc | apply Kd.R_drewN | apply Kd.R_drew)); exact HO454.out))) (Kd.R_lt (by (with_reducible repeat (first | apply Kd.R_alloc | apply Kd.R_drewN | apply Kd.R_drew)); exact HO458.out))) (below_size (by repeat (first | (with_reducible first | exact HB.out | apply below_alloc | apply pw_below_drewN | apply below_drew1) | exact HB.out)))); have n7_ := Aside0.mk (below_step (by repeat (first | (with_reducible first | exact HB.out | apply below_alloc | apply pw_below_drewN | apply below_drew1) | exact HB.out)) hb); clear HO_7; clear HO_8; clear HO448; clear HO451; clear HO454; clear HO458; clear HB; have HO_7 := n0_; have HO_8 := n1_; have HO448 := n2_; have HO451 := n3_; have HO454 := n4_; have HO458 := n5_; have HO464 := n6_; have HB := n7_; clear n0_ n1_ n2_ n3_ n4_ n5_ n6_ n7_; (try clear hb); (try clear hb2); (try clear hk); (try clear hi); (try clear ho0); obtain ⟨Ao98, co98, eo98⟩ := Kd.R_slice HO464.out; subst eo98) | (go_at_call 10; (with_reducible refine (q2z.calls kj13 _ _ t462 _ _ t452 t465 _ ?side1 ?side2 ?side3 ?side4 A84.out).mono ?_); (case side1 => repeat (first | exact (Kd.R_reads' HO464.out).2.2 | (with_reducible refine Kd.C_alloc ?_ _) | (with_reducible refine Kd.C_drewN ?_ _) | (with_reducible refine Kd.C_drew ?_))); (case side2 => exact (Kd.R_reads' HO464.out).2.1); (case side3 => repeat (first | exact (Kd.R_reads' HO454.out).2.2 | (with_reducible refine Kd.C_alloc ?_ _) | (with_reducible refine Kd.C_drewN ?_ _) | (with_reducible refine Kd.C_drew ?_))); (case side4 => exact (Kd.R_reads' HO454.out).2.1); rintro e w' ⟨rfl, ⟨nd, rfl⟩⟩))
              go_ret
              exact ⟨by first | rfl | (simp [errW_none, errW_some] <;> rfl) | (simp [*, errW_none, errW_some] <;> rfl), by repeat (first | (with_reducible first | exact HB.out | apply below_alloc | apply pw_below_drewN | apply below_drew1) | exact HB.out)⟩
             ·
              rw [if_neg c82] at H
              have c82b0 : (t460 == true) = false := by simpa using c82
              (try (have c82b1 : decide (t460 = true) = false := by simpa using c82))
              (try (have c82b2 : (t460 == true) = false := by simpa using c82))
              (try (have c82b3 : ¬ (t460 = true) := by simpa using c82))
              clear c82
              obtain rfl := Option.some.inj H
              go_wp2_with (first | ((with_reducible refine gate_callee (f := 21) rfl ?_); refine goesL_ (some 52) rfl rfl Try.func21 (by kernel_rfl) rfl #[.slice A0 l0.length c0] rfl (by (try simp only [List.map_toArray, List.map_cons, List.map_nil]); first | done | rfl | (simp only [List.length_drop, List.length_take]; rfl)) ?_; (with_reducible refine (q4z.calls kj13 _ _ l0 t446 _ ?side1 ?side2 A70.out).mono ?_); (case side1 => repeat (first | exact (Kd.C_below HR0.out HB.out) | (with_reducible refine Kd.C_alloc ?_ _) | (with_reducible refine Kd.C_drewN ?_ _) | (with_reducible refine Kd.C_drew ?_))); (case side2 => exact HC0.out); rintro e w99 ⟨v447, rfl, ho0, hb⟩; refine ⟨_, rfl, ?_⟩; have n0_ := Aside0.mk (Kd.R_elder' (by (with_reducible repeat (first | apply Kd.R_alloc | apply Kd.R_drewN | apply Kd.R_drew)); exact HO_7.out) (Kd.R_base ho0) hb); have n1_ := Aside0.mk (Kd.R_elder' (by (with_reducible repeat (first | apply Kd.R_alloc | apply Kd.R_drewN | apply Kd.R_drew)); exact HO_8.out) (Kd.R_base ho0) hb); have n2_ := Aside0.mk (Kd.R_lower (Kd.R_new' (Kd.R_new' ho0 (Kd.R_lt (by (with_reducible repeat (first | apply Kd.R_alloc | apply Kd.R_drewN | apply Kd.R_drew)); exact HO_7.out))) (Kd.R_lt (by (with_reducible repeat (first | apply Kd.R_alloc | apply Kd.R_drewN | apply Kd.R_drew)); exact HO_8.out))) (below_size (by repeat (first | (with_reducible first | exact HB.out | apply below_alloc | apply pw_below_drewN | apply below_drew1) | exact HB.out)))); have n3_ := Aside0.mk (below_step (by repeat (first | (with_reducible first | exact HB.out | apply below_alloc | apply pw_below_drewN | apply below_drew1) | exact HB.out)) hb); clear HO_7; clear HO_8; clear HB; have HO_7 := n0_; have HO_8 := n1_; have HO448 := n2_; have HB := n3_; clear n0_ n1_ n2_ n3_; (try clear hb); (try clear hb2); (try clear hk); (try clear hi); (try clear ho0); obtain ⟨Ao100, co100, eo100⟩ := Kd.R_slice HO448.out; subst eo100) | ((with_reducible refine gate_callee (f := 19) rfl ?_); refine goesL_ (some 53) rfl rfl Try.func19 (by kernel_rfl) rfl #[.slice A0 l0.length c0, .slice Ao100 t446.length co100] rfl (by (try simp only [List.map_toArray, List.map_cons, List.map_nil]); first | done | rfl | (simp only [List.length_drop, List.length_take]; rfl)) ?_; (with_reducible refine (span_Union.calls kj13 _ _ l0 _ _ t446 t449 _ ?side1 ?side2 ?side3 ?side4 A71.out).mono ?_); (case side1 => repeat (first | exact (Kd.C_below HR0.out HB.out) | (with_reducible refine Kd.C_alloc ?_ _) | (with_reducible refine Kd.C_drewN ?_ _) | (with_reducible refine Kd.C_drew ?_))); (case side2 => exact HC0.out); (case side3 => repeat (first | exact (Kd.R_reads' HO448.out).2.2 | (with_reducible refine Kd.C_alloc ?_ _) | (with_reducible refine Kd.C_drewN ?_ _) | (with_reducible refine Kd.C_drew ?_))); (case side4 => exact (Kd.R_reads' HO448.out).2.1); rintro e w101 ⟨v450, rfl, ho0, hb⟩; refine ⟨_, rfl, ?_⟩; have n0_ := Aside0.mk (Kd.R_elder' (by (with_reducible repeat (first | apply Kd.R_alloc | apply Kd.R_drewN | apply Kd.R_drew)); exact HO_7.out) (Kd.R_base ho0) hb); have n1_ := Aside0.mk (Kd.R_elder' (by (with_reducible repeat (first | apply Kd.R_alloc | apply Kd.R_drewN | apply Kd.R_drew)); exact HO_8.out) (Kd.R_base ho0) hb); have n2_ := Aside0.mk (Kd.R_elder' (by (with_reducible repeat (first | apply Kd.R_alloc | apply Kd.R_drewN | apply Kd.R_drew)); exact HO448.out) (Kd.R_base ho0) hb); have n3_ := Aside0.mk (Kd.R_lower (Kd.R_new' (Kd.R_new' (Kd.R_new' ho0 (Kd.R_lt (by (with_reducible repeat (first | apply Kd.R_alloc | apply Kd.R_drewN | apply Kd.R_drew)); exact HO_7.out))) (Kd.R_lt (by (with_reducible repeat (first | apply Kd.R_alloc | apply Kd.R_drewN | apply Kd.R_drew)); exact HO_8.out))) (Kd.R_lt (by (with_reducible repeat (first | apply Kd.R_alloc | apply Kd.R_drewN | apply Kd.R_drew)); exact HO448.out))) (below_size (by repeat (first | (with_reducible first | exact HB.out | apply below_alloc | apply pw_below_drewN | apply below_drew1) | exact HB.out)))); have n4_ := Aside0.mk (below_step (by repeat (first | (with_reducible first | exact HB.out | apply below_alloc | apply pw_below_drewN | apply below_drew1) | exact HB.out)) hb); clear HO_7; clear HO_8; clear HO448; clear HB; have HO_7 := n0_; have HO_8 := n1_; have HO448 := n2_; have HO451 := n3_; have HB := n4_; clear n0_ n1_ n2_ n3_ n4_; (try clear hb); (try clear hb2); (try clear hk); (try clear hi); (try clear ho0); obtain ⟨Ao102, co102, eo102⟩ := Kd.R_slice HO_7.out; subst eo102; obtain ⟨Ao103, co103, eo103⟩ := Kd.R_slice HO_8.out; subst eo103) | ((with_reducible refine gate_callee (f := 19) rfl ?_); refine goesL_ (some 56) rfl rfl Try.func19 (by kernel_rfl) rfl #[.slice Ao102 t411.length co102, .slice Ao103 t414.length co103] rfl (by (try simp only [List.map_toArray, List.map_cons, List.map_nil]); first | done | rfl | (simp only [List.length_drop, List.length_take]; rfl)) ?_; (with_reducible refine (span_Union.calls kj13 _ _ t411 _ _ t414 t452 _ ?side1 ?side2 ?side3 ?side4 A72.out).mono ?_); (case side1 => repeat (first | exact (Kd.R_reads' HO_7.out).2.2 | (with_reducible refine Kd.C_alloc ?_ _) | (with_reducible refine Kd.C_drewN ?_ _) | (with_reducible refine Kd.C_drew ?_))); (case side2 => exact (Kd.R_reads' HO_7.out).2.1); (case side3 => repeat (first | exact (Kd.R_reads' HO_8.out).2.2 | (with_reducible refine Kd.C_alloc ?_ _) | (with_reducible refine Kd.C_drewN ?_ _) | (with_reducible refine Kd.C_drew ?_))); (case side4 => exact (Kd.R_reads' HO_8.out).2.1); rintro e w104 ⟨v453, rfl, ho0, hb⟩; refine ⟨_, rfl, ?_⟩; have n0_ := Aside0.mk (Kd.R_elder' (by (with_reducible repeat (first | apply Kd.R_alloc | apply Kd.R_drewN | apply Kd.R_drew)); exact HO_7.out) (Kd.R_base ho0) hb); have n1_ := Aside0.mk (Kd.R_elder' (by (with_reducible repeat (first | apply Kd.R_alloc | apply Kd.R_drewN | apply Kd.R_drew)); exact HO_8.out) (Kd.R_base ho0) hb); have n2_ := Aside0.mk (Kd.R_elder' (by (with_reducible repeat (first | apply Kd.R_alloc | apply Kd.R_drewN | apply Kd.R_drew)); exact HO448.out) (Kd.R_base ho0) hb); have n3_ := Aside0.mk (Kd.R_elder' (by (with_reducible repeat (first | apply Kd.R_alloc | apply Kd.R_drewN | apply Kd.R_drew)); exact HO451.out) (Kd.R_base ho0) hb); have n4_ := Aside0.mk (Kd.R_lower (Kd.R_new' (Kd.R_new' (Kd.R_new' (Kd.R_new' ho0 (Kd.R_lt (by (with_reducible repeat (first | apply Kd.R_alloc | apply Kd.R_drewN | apply Kd.R_drew)); exact HO_7.out))) (Kd.R_lt (by (with_reducible repeat (first | apply Kd.R_alloc | apply Kd.R_drewN | apply Kd.R_drew)); exact HO_8.out))) (Kd.R_lt (by (with_reducible repeat (first | apply Kd.R_alloc | apply Kd.R_drewN | apply Kd.R_drew)); exact HO448.out))) (Kd.R_lt (by (with_reducible repeat (first | apply Kd.R_alloc | apply Kd.R_drewN | apply Kd.R_drew)); exact HO451.out))) (below_size (by repeat (first | (with_reducible first | exact HB.out | apply below_alloc | apply pw_below_drewN | apply below_drew1) | exact HB.out)))); have n5_ := Aside0.mk (below_step (by repeat (first | (with_reducible first | exact HB.out | apply below_alloc | apply pw_below_drewN | apply below_drew1) | exact HB.out)) hb); clear HO_7; clear HO_8; clear HO448; clear HO451; clear HB; have HO_7 := n0_; have HO_8 := n1_; have HO448 := n2_; have HO451 := n3_; have HO454 := n4_; have HB := n5_; clear n0_ n1_ n2_ n3_ n4_ n5_; (try clear hb); (try clear hb2); (try clear hk); (try clear hi); (try clear ho0); obtain ⟨Ao105, co105, eo105⟩ := Kd.R_slice HO451.out; subst eo105; have p455 : 0 ≤ (0 : Int) := (by omega); have q455 : 0 < (t449.length : Int) := of_decide_eq_true (by first | (with_reducible assumption) | assumption); obtain ⟨ad455, e455, hx455_0, hx455_1⟩ := at_T33 (Kd.R_reads' HO451.out).2.2 0 p455 q455; cases e455; have qi455 : (0 < t449.length) = True := eq_true (by omega); (try rw [show ((0 : Int)).toNat = 0 from rfl] at hx455_0); (try rw [show 0 * 2 = 0 from rfl] at hx455_0); (try rw [Addr.add_zero'] at hx455_0); (try rw [show ((0 : Int)).toNat = 0 from rfl] at hx455_1); (try rw [show 0 * 2 = 0 from rfl] at hx455_1); (try rw [Addr.add_zero'] at hx455_1); replace p455 := eq_true p455; replace q455 := eq_true q455) | (go_at_call 19; (with_reducible refine (span_Union.calls kj13 _ _ l1 _ _ l0 t456 _ ?side1 ?side2 ?side3 ?side4 A76.out).mono ?_); (case side1 => repeat (first | exact (Kd.C_below HR1.out HB.out) | (with_reducible refine Kd.C_alloc ?_ _) | (with_reducible refine Kd.C_drewN ?_ _) | (with_reducible refine Kd.C_drew ?_))); (case side2 => exact HC1.out); (case side3 => repeat (first | exact (Kd.C_below HR0.out HB.out) | (with_reducible refine Kd.C_alloc ?_ _) | (with_reducible refine Kd.C_drewN ?_ _) | (with_reducible refine Kd.C_drew ?_))); (case side4 => exact HC0.out); rintro e w106 ⟨v457, rfl, ho0, hb⟩; have n0_ := Aside0.mk (Kd.R_elder' (by (with_reducible repeat (first | apply Kd.R_alloc | apply Kd.R_drewN | apply Kd.R_drew)); exact HO_7.out) (Kd.R_base ho0) hb); have n1_ := Aside0.mk (Kd.R_elder' (by (with_reducible repeat (first | apply Kd.R_alloc | apply Kd.R_drewN | apply Kd.R_drew)); exact HO_8.out) (Kd.R_base ho0) hb); have n2_ := Aside0.mk (Kd.R_elder' (by (with_reducible repeat (first | apply Kd.R_alloc | apply Kd.R_drewN | apply Kd.R_drew)); exact HO448.out) (Kd.R_base ho0) hb); have n3_ := Aside0.mk (Kd.R_elder' (by (with_reducible repeat (first | apply Kd.R_alloc | apply Kd.R_drewN | apply Kd.R_drew)); exact HO451.out) (Kd.R_base ho0) hb); have n4_ := Aside0.mk (Kd.R_elder' (by (with_reducible repeat (first | apply Kd.R_alloc | apply Kd.R_drewN | apply Kd.R_drew)); exact HO454.out) (Kd.R_base ho0) hb); have n5_ := Aside0.mk (Kd.R_lower (Kd.R_new' (Kd.R_new' (Kd.R_new' (Kd.R_new' (Kd.R_new' ho0 (Kd.R_lt (by (with_reducible repeat (first | apply Kd.R_alloc | apply Kd.R_drewN | apply Kd.R_drew)); exact HO_7.out))) (Kd.R_lt (by (with_reducible repeat (first | apply Kd.R_alloc | apply Kd.R_drewN | apply Kd.R_drew)); exact HO_8.out))) (Kd.R_lt (by (with_reducible repeat (first | apply Kd.R_alloc | apply Kd.R_drewN | apply Kd.R_drew)); exact HO448.out))) (Kd.R_lt (by (with_reducible repeat (first | apply Kd.R_alloc | apply Kd.R_drewN | apply Kd.R_drew)); exact HO451.out))) (Kd.R_lt (by (with_reducible repeat (first | apply Kd.R_alloc | apply Kd.R_drewN | apply Kd.R_drew)); exact HO454.out))) (below_size (by repeat (first | (with_reducible first | exact HB.out | apply below_alloc | apply pw_below_drewN | apply below_drew1) | exact HB.out)))); have n6_ := Aside0.mk (below_step (by repeat (first | (with_reducible first | exact HB.out | apply below_alloc | apply pw_below_drewN | apply below_drew1) | exact HB.out)) hb); clear HO_7; clear HO_8; clear HO448; clear HO451; clear HO454; clear HB; have HO_7 := n0_; have HO_8 := n1_; have HO448 := n2_; have HO451 := n3_; have HO454 := n4_; have HO458 := n5_; have HB := n6_; clear n0_ n1_ n2_ n3_ n4_ n5_ n6_; (try clear hb); (try clear hb2); (try clear hk); (try clear hi); (try clear ho0); obtain ⟨Ao107, co107, eo107⟩ := Kd.R_slice HO454.out; subst eo107; obtain ⟨Ao108, co108, eo108⟩ := Kd.R_slice HO458.out; subst eo108) | (go_at_call 10; (with_reducible refine (q2z.calls kj13 _ _ t452 _ _ t456 true _ ?side1 ?side2 ?side3 ?side4 A77.out).mono ?_); (case side1 => repeat (first | exact (Kd.R_reads' HO454.out).2.2 | (with_reducible refine Kd.C_alloc ?_ _) | (with_reducible refine Kd.C_drewN ?_ _) | (with_reducible refine Kd.C_drew ?_))); (case side2 => exact (Kd.R_reads' HO454.out).2.1); (case side3 => repeat (first | exact (Kd.R_reads' HO458.out).2.2 | (with_reducible refine Kd.C_alloc ?_ _) | (with_reducible refine Kd.C_drewN ?_ _) | (with_reducible refine Kd.C_drew ?_))); (case side4 => exact (Kd.R_reads' HO458.out).2.1); rintro e w' ⟨rfl, ⟨nd, rfl⟩⟩) | (go_at_call 16; (with_reducible refine (span_In.calls _ _ t452 a2 t460 _ ?side1 ?side2 A79.out).mono ?_); (case side1 => repeat (first | exact (Kd.R_reads' HO454.out).2.2 | (with_reducible refine Kd.C_alloc ?_ _) | (with_reducible refine Kd.C_drewN ?_ _) | (with_reducible refine Kd.C_drew ?_))); (case side2 => exact (Kd.R_reads' HO454.out).2.1); rintro e w109 ⟨rfl, hb⟩; have n0_ := Aside0.mk (Kd.R_below (by (with_reducible repeat (first | apply Kd.R_alloc | apply Kd.R_drewN | apply Kd.R_drew)); exact HO_7.out) hb); have n1_ := Aside0.mk (Kd.R_below (by (with_reducible repeat (first | apply Kd.R_alloc | apply Kd.R_drewN | apply Kd.R_drew)); exact HO_8.out) hb); have n2_ := Aside0.mk (Kd.R_below (by (with_reducible repeat (first | apply Kd.R_alloc | apply Kd.R_drewN | apply Kd.R_drew)); exact HO448.out) hb); have n3_ := Aside0.mk (Kd.R_below (by (with_reducible repeat (first | apply Kd.R_alloc | apply Kd.R_drewN | apply Kd.R_drew)); exact HO451.out) hb); have n4_ := Aside0.mk (Kd.R_below (by (with_reducible repeat (first | apply Kd.R_alloc | apply Kd.R_drewN | apply Kd.R_drew)); exact HO454.out) hb); have n5_ := Aside0.mk (Kd.R_below (by (with_reducible repeat (first | apply Kd.R_alloc | apply Kd.R_drewN | apply Kd.R_drew)); exact HO458.out) hb); have n6_ := Aside0.mk (below_step (by repeat (first | (with_reducible first | exact HB.out | apply below_alloc | apply pw_below_drewN | apply below_drew1) | exact HB.out)) hb); clear HO_7; clear HO_8; clear HO448; clear HO451; clear HO454; clear HO458; clear HB; have HO_7 := n0_; have HO_8 := n1_; have HO448 := n2_; have HO451 := n3_; have HO454 := n4_; have HO458 := n5_; have HB := n6_; clear n0_ n1_ n2_ n3_ n4_ n5_ n6_; (try clear hb); (try clear hb2); (try clear hk); (try clear hi)) | (go_at_call 16; (with_reducible refine (span_In.calls _ _ l0 a2 true _ ?side1 ?side2 A80.out).mono ?_); (case side1 => repeat (first | exact (Kd.C_below HR0.out HB.out) | (with_reducible refine Kd.C_alloc ?_ _) | (with_reducible refine Kd.C_drewN ?_ _) | (with_reducible refine Kd.C_drew ?_))); (case side2 => exact HC0.out); rintro e w110 ⟨rfl, hb⟩; have n0_ := Aside0.mk (Kd.R_below (by (with_reducible repeat (first | apply Kd.R_alloc | apply Kd.R_drewN | apply Kd.R_drew)); exact HO_7.out) hb); have n1_ := Aside0.mk (Kd.R_below (by (with_reducible repeat (first | apply Kd.R_alloc | apply Kd.R_drewN | apply Kd.R_drew)); exact HO_8.out) hb); have n2_ := Aside0.mk (Kd.R_below (by (with_reducible repeat (first | apply Kd.R_alloc | apply Kd.R_drewN | apply Kd.R_drew)); exact HO448.out) hb); have n3_ := Aside0.mk (Kd.R_below (by (with_reducible repeat (first | apply Kd.R_alloc | apply Kd.R_drewN | apply Kd.R_drew)); exact HO451.out) hb); have n4_ := Aside0.mk (Kd.R_below (by (with_reducible repeat (first | apply Kd.R_alloc | apply Kd.R_drewN | apply Kd.R_drew)); exact HO454.out) hb); have n5_ := Aside0.mk (Kd.R_below (by (with_reducible repeat (first | apply Kd.R_alloc | apply Kd.R_drewN | apply Kd.R_drew)); exact HO458.out) hb); have n6_ := Aside0.mk (below_step (by repeat (first | (with_reducible first | exact HB.out | apply below_alloc | apply pw_below_drewN | apply below_drew1) | exact HB.out)) hb); clear HO_7; clear HO_8; clear HO448; clear HO451; clear HO454; clear HO458; clear HB; have HO_7 := n0_; have HO_8 := n1_; have HO448 := n2_; have HO451 := n3_; have HO454 := n4_; have HO458 := n5_; have HB := n6_; clear n0_ n1_ n2_ n3_ n4_ n5_ n6_; (try clear hb); (try clear hb2); (try clear hk); (try clear hi)))
              go_ret
              exact ⟨by first | rfl | (simp [errW_none, errW_some] <;> rfl) | (simp [*, errW_none, errW_some] <;> rfl), by repeat (first | (with_reducible first | exact HB.out | apply below_alloc | apply pw_below_drewN | apply below_drew1) | exact HB.out)⟩
            ·
             replace c81 := Bool.eq_false_iff.mpr c81
             subst c81
             have H1 : ((span_In.f l1 a2).bind fun t466 => (if (t460 == t466) = true then ((q1z.f kj13 t452).bind fun t467 => ((q2z.f kj13 t467 t452).bind fun t470 => (some t470))) else (some false))) = some r := by rw [if_neg (show ¬ (false = true) by decide)] at H; exact H
             clear H
             have H := H1
             clear H1
             replace H := Option.bind_eq_some_iff.mp H
             obtain ⟨t466, A1110, H⟩ := H
             replace H : (if (t460 == t466) = true then ((q1z.f kj13 t452).bind fun t467 => ((q2z.f kj13 t467 t452).bind fun t470 => (some t470))) else (some false)) = some r := H
             have A111 := Aside0.mk A1110
             clear A1110
             by_cases c112 : (t460 == t466) = true
             ·
              rw [if_pos c112] at H
              have c112b0 : (t460 == t466) = true := c112
              (try (have c112b1 : decide (t460 = t466) = true := by simpa using c112))
              (try (have c112b2 : (t460 == t466) = true := by simpa using c112))
              clear c112
              replace H := Option.bind_eq_some_iff.mp H
              obtain ⟨t467, A1130, H⟩ := H
              replace H : ((q2z.f kj13 t467 t452).bind fun t470 => (some t470)) = some r := H
              have A113 := Aside0.mk A1130
              clear A1130
              replace H := Option.bind_eq_some_iff.mp H
              obtain ⟨t470, A1140, H⟩ := H
              replace H : (some t470) = some r := H
              have A114 := Aside0.mk A1140
              clear A1140
              obtain rfl := Option.some.inj H
              go_wp2_with (first | ((with_reducible refine gate_callee (f := 21) rfl ?_); refine goesL_ (some 52) rfl rfl Try.func21 (by kernel_rfl) rfl #[.slice A0 l0.length c0] rfl (by (try simp only [List.map_toArray, List.map_cons, List.map_nil]); first | done | rfl | (simp only [List.length_drop, List.length_take]; rfl)) ?_; (with_reducible refine (q4z.calls kj13 _ _ l0 t446 _ ?side1 ?side2 A70.out).mono ?_); (case side1 => repeat (first | exact (Kd.C_below HR0.out HB.out) | (with_reducible refine Kd.C_alloc ?_ _) | (with_reducible refine Kd.C_drewN ?_ _) | (with_reducible refine Kd.C_drew ?_))); (case side2 => exact HC0.out); rintro e w115 ⟨v447, rfl, ho0, hb⟩; refine ⟨_, rfl, ?_⟩; have n0_ := Aside0.mk (Kd.R_elder' (by (with_reducible repeat (first | apply Kd.R_alloc | apply Kd.R_drewN | apply Kd.R_drew)); exact HO_7.out) (Kd.R_base ho0) hb); have n1_ := Aside0.mk (Kd.R_elder' (by (with_reducible repeat (first | apply Kd.R_alloc | apply Kd.R_drewN | apply Kd.R_drew)); exact HO_8.out) (Kd.R_base ho0) hb); have n2_ := Aside0.mk (Kd.R_lower (Kd.R_new' (Kd.R_new' ho0 (Kd.R_lt (by (with_reducible repeat (first | apply Kd.R_alloc | apply Kd.R_drewN | apply Kd.R_drew)); exact HO_7.out))) (Kd.R_lt (by (with_reducible repeat (first | apply Kd.R_alloc | apply Kd.R_drewN | apply Kd.R_drew)); exact HO_8.out))) (below_size (by repeat (first | (with_reducible first | exact HB.out | apply below_alloc | apply pw_below_drewN | apply below_drew1) | exact HB.out)))); have n3_ := Aside0.mk (below_step (by repeat (first | (with_reducible first | exact HB.out | apply below_alloc | apply pw_below_drewN | apply below_drew1) | exact HB.out)) hb); clear HO_7; clear HO_8; clear HB; have HO_7 := n0_; have HO_8 := n1_; have HO448 := n2_; have HB := n3_; clear n0_ n1_ n2_ n3_; (try clear hb); (try clear hb2); (try clear hk); (try clear hi); (try clear ho0); obtain ⟨Ao116, co116, eo116⟩ := Kd.R_slice HO448.out; subst eo116) | ((with_reducible refine gate_callee (f := 19) rfl ?_); refine goesL_ (some 53) rfl rfl Try.func19 (by kernel_rfl) rfl #[.slice A0 l0.length c0, .slice Ao116 t446.length co116] rfl (by (try simp only [List.map_toArray, List.map_cons, List.map_nil]); first | done | rfl | (simp only [List.length_drop, List.length_take]; rfl)) ?_; (with_reducible refine (span_Union.calls kj13 _ _ l0 _ _ t446 t449 _ ?side1 ?side2 ?side3 ?side4 A71.out).mono ?_); (case side1 => repeat (first | exact (Kd.C_below HR0.out HB.out) | (with_reducible refine Kd.C_alloc ?_ _) | (with_reducible refine Kd.C_drewN ?_ _) | (with_reducible refine Kd.C_drew ?_))); (case side2 => exact HC0.out); (case side3 => repeat (first | exact (Kd.R_reads' HO448.out).2.2 | (with_reducible refine Kd.C_alloc ?_ _) | (with_reducible refine Kd.C_drewN ?_ _) | (with_reducible refine Kd.C_drew ?_))); (case side4 => exact (Kd.R_reads' HO448.out).2.1); rintro e w117 ⟨v450, rfl, ho0, hb⟩; refine ⟨_, rfl, ?_⟩; have n0_ := Aside0.mk (Kd.R_elder' (by (with_reducible repeat (first | apply Kd.R_alloc | apply Kd.R_drewN | apply Kd.R_drew)); exact HO_7.out) (Kd.R_base ho0) hb); have n1_ := Aside0.mk (Kd.R_elder' (by (with_reducible repeat (first | apply Kd.R_alloc | apply Kd.R_drewN | apply Kd.R_drew)); exact HO_8.out) (Kd.R_base ho0) hb); have n2_ := Aside0.mk (Kd.R_elder' (by (with_reducible repeat (first | apply Kd.R_alloc | apply Kd.R_drewN | apply Kd.R_drew)); exact HO448.out) (Kd.R_base ho0) hb); have n3_ := Aside0.mk (Kd.R_lower (Kd.R_new' (Kd.R_new' (Kd.R_new' ho0 (Kd.R_lt (by (with_reducible repeat (first | apply Kd.R_alloc | apply Kd.R_drewN | apply Kd.R_drew)); exact HO_7.out))) (Kd.R_lt (by (with_reducible repeat (first | apply Kd.R_alloc | apply Kd.R_drewN | apply Kd.R_drew)); exact HO_8.out))) (Kd.R_lt (by (with_reducible repeat (first | apply Kd.R_alloc | apply Kd.R_drewN | apply Kd.R_drew)); exact HO448.out))) (below_size (by repeat (first | (with_reducible first | exact HB.out | apply below_alloc | apply pw_below_drewN | apply below_drew1) | exact HB.out)))); have n4_ := Aside0.mk (below_step (by repeat (first | (with_reducible first | exact HB.out | apply below_alloc | apply pw_below_drewN | apply below_drew1) | exact HB.out)) hb); clear HO_7; clear HO_8; clear HO448; clear HB; have HO_7 := n0_; have HO_8 := n1_; have HO448 := n2_; have HO451 := n3_; have HB := n4_; clear n0_ n1_ n2_ n3_ n4_; (try clear hb); (try clear hb2); (try clear hk); (try clear hi); (try clear ho0); obtain ⟨Ao118, co118, eo118⟩ := Kd.R_slice HO_7.out; subst eo118; obtain ⟨Ao119, co119, eo119⟩ := Kd.R_slice HO_8.out; subst eo119) | ((with_reducible refine gate_callee (f := 19) rfl ?_); refine goesL_ (some 56) rfl rfl Try.func19 (by kernel_rfl) rfl #[.slice Ao118 t411.length co118, .slice Ao119 t414.length co119] rfl (by (try simp only [List.map_toArray, List.map_cons, List.map_nil]); first | done | rfl | (simp only [List.length_drop, List.length_take]; rfl)) ?_; (with_reducible refine (span_Union.calls kj13 _ _ t411 _ _ t414 t452 _ ?side1 ?side2 ?side3 ?side4 A72.out).mono ?_); (case side1 => repeat (first | exact (Kd.R_reads' HO_7.out).2.2 | (with_reducible refine Kd.C_alloc ?_ _) | (with_reducible refine Kd.C_drewN ?_ _) | (with_reducible refine Kd.C_drew ?_))); (case side2 => exact (Kd.R_reads' HO_7.out).2.1); (case side3 => repeat (first | exact (Kd.R_reads' HO_8.out).2.2 | (with_reducible refine Kd.C_alloc ?_ _) | (with_reducible refine Kd.C_drewN ?_ _) | (with_reducible refine Kd.C_drew ?_))); (case side4 => exact (Kd.R_reads' HO_8.out).2.1); rintro e w120 ⟨v453, rfl, ho0, hb⟩; refine ⟨_, rfl, ?_⟩; have n0_ := Aside0.mk (Kd.R_elder' (by (with_reducible repeat (first | apply Kd.R_alloc | apply Kd.R_drewN | apply Kd.R_drew)); exact HO_7.out) (Kd.R_base ho0) hb); have n1_ := Aside0.mk (Kd.R_elder' (by (with_reducible repeat (first | apply Kd.R_alloc | apply Kd.R_drewN | apply Kd.R_drew)); exact HO_8.out) (Kd.R_base ho0) hb); have n2_ := Aside0.mk (Kd.R_elder' (by (with_reducible repeat (first | apply Kd.R_alloc | apply Kd.R_drewN | apply Kd.R_drew)); exact HO448.out) (Kd.R_base ho0) hb); have n3_ := Aside0.mk (Kd.R_elder' (by (with_reducible repeat (first | apply Kd.R_alloc | apply Kd.R_drewN | apply Kd.R_drew)); exact HO451.out) (Kd.R_base ho0) hb); have n4_ := Aside0.mk (Kd.R_lower (Kd.R_new' (Kd.R_new' (Kd.R_new' (Kd.R_new' ho0 (Kd.R_lt (by (with_reducible repeat (first | apply Kd.R_alloc | apply Kd.R_drewN | apply Kd.R_drew)); exact HO_7.out))) (Kd.R_lt (by (with_reducible repeat (first | apply Kd.R_alloc | apply Kd.R_drewN | apply Kd.R_drew)); exact HO_8.out))) (Kd.R_lt (by (with_reducible repeat (first | apply Kd.R_alloc | apply Kd.R_drewN | apply Kd.R_drew)); exact HO448.out))) (Kd.R_lt (by (with_reducible repeat (first | apply Kd.R_alloc | apply Kd.R_drewN | apply Kd.R_drew)); exact HO451.out))) (below_size (by repeat (first | (with_reducible first | exact HB.out | apply below_alloc | apply pw_below_drewN | apply below_drew1) | exact HB.out)))); have n5_ := Aside0.mk (below_step (by repeat (first | (with_reducible first | exact HB.out | apply below_alloc | apply pw_below_drewN | apply below_drew1) | exact HB.out)) hb); clear HO_7; clear HO_8; clear HO448; clear HO451; clear HB; have HO_7 := n0_; have HO_8 := n1_; have HO448 := n2_; have HO451 := n3_; have HO454 := n4_; have HB := n5_; clear n0_ n1_ n2_ n3_ n4_ n5_; (try clear hb); (try clear hb2); (try clear hk); (try clear hi); (try clear ho0); obtain ⟨Ao121, co121, eo121⟩ := Kd.R_slice HO451.out; subst eo121; have p455 : 0 ≤ (0 : Int) := (by omega); have q455 : 0 < (t449.length : Int) := of_decide_eq_true (by first | (with_reducible assumption) | assumption); obtain ⟨ad455, e455, hx455_0, hx455_1⟩ := at_T33 (Kd.R_reads' HO451.out).2.2 0 p455 q455; cases e455; have qi455 : (0 < t449.length) = True := eq_true (by omega); (try rw [show ((0 : Int)).toNat = 0 from rfl] at hx455_0); (try rw [show 0 * 2 = 0 from rfl] at hx455_0); (try rw [Addr.add_zero'] at hx455_0); (try rw [show ((0 : Int)).toNat = 0 from rfl] at hx455_1); (try rw [show 0 * 2 = 0 from rfl] at hx455_1); (try rw [Addr.add_zero'] at hx455_1); replace p455 := eq_true p455; replace q455 := eq_true q455) | (go_at_call 19; (with_reducible refine (span_Union.calls kj13 _ _ l1 _ _ l0 t456 _ ?side1 ?side2 ?side3 ?side4 A76.out).mono ?_); (case side1 => repeat (first | exact (Kd.C_below HR1.out HB.out) | (with_reducible refine Kd.C_alloc ?_ _) | (with_reducible refine Kd.C_drewN ?_ _) | (with_reducible refine Kd.C_drew ?_))); (case side2 => exact HC1.out); (case side3 => repeat (first | exact (Kd.C_below HR0.out HB.out) | (with_reducible refine Kd.C_alloc ?_ _) | (with_reducible refine Kd.C_drewN ?_ _) | (with_reducible refine Kd.C_drew ?_))); (case side4 => exact HC0.out); rintro e w122 ⟨v457, rfl, ho0, hb⟩; have n0_ := Aside0.mk (Kd.R_elder' (by (with_reducible repeat (first | apply Kd.R_alloc | apply Kd.R_drewN | apply Kd.R_drew)); exact HO_7.out) (Kd.R_base ho0) hb); have n1_ := Aside0.mk (Kd.R_elder' (by (with_reducible repeat (first | apply Kd.R_alloc | apply Kd.R_drewN | apply Kd.R_drew)); exact HO_8.out) (Kd.R_base ho0) hb); have n2_ := Aside0.mk (Kd.R_elder' (by (with_reducible repeat (first | apply Kd.R_alloc | apply Kd.R_drewN | apply Kd.R_drew)); exact HO448.out) (Kd.R_base ho0) hb); have n3_ := Aside0.mk (Kd.R_elder' (by (with_reducible repeat (first | apply Kd.R_alloc | apply Kd.R_drewN | apply Kd.R_drew)); exact HO451.out) (Kd.R_base ho0) hb); have n4_ := Aside0.mk (Kd.R_elder' (by (with_reducible repeat (first | apply Kd.R_alloc | apply Kd.R_drewN | apply Kd.R_drew)); exact HO454.out) (Kd.R_base ho0) hb); have n5_ := Aside0.mk (Kd.R_lower (Kd.R_new' (Kd.R_new' (Kd.R_new' (Kd.R_new' (Kd.R_new' ho0 (Kd.R_lt (by (with_reducible repeat (first | apply Kd.R_alloc | apply Kd.R_drewN | apply Kd.R_drew)); exact HO_7.out))) (Kd.R_lt (by (with_reducible repeat (first | apply Kd.R_alloc | apply Kd.R_drewN | apply Kd.R_drew)); exact HO_8.out))) (Kd.R_lt (by (with_reducible repeat (first | apply Kd.R_alloc | apply Kd.R_drewN | apply Kd.R_drew)); exact HO448.out))) (Kd.R_lt (by (with_reducible repeat (first | apply Kd.R_alloc | apply Kd.R_drewN | apply Kd.R_drew)); exact HO451.out))) (Kd.R_lt (by (with_reducible repeat (first | apply Kd.R_alloc | apply Kd.R_drewN | apply Kd.R_drew)); exact HO454.out))) (below_size (by repeat (first | (with_reducible first | exact HB.out | apply below_alloc | apply pw_below_drewN | apply below_drew1) | exact HB.out)))); have n6_ := Aside0.mk (below_step (by repeat (first | (with_reducible first | exact HB.out | apply below_alloc | apply pw_below_drewN | apply below_drew1) | exact HB.out)) hb); clear HO_7; clear HO_8; clear HO448; clear HO451; clear HO454; clear HB; have HO_7 := n0_; have HO_8 := n1_; have HO448 := n2_; have HO451 := n3_; have HO454 := n4_; have HO458 := n5_; have HB := n6_; clear n0_ n1_ n2_ n3_ n4_ n5_ n6_; (try clear hb); (try clear hb2); (try clear hk); (try clear hi); (try clear ho0); obtain ⟨Ao123, co123, eo123⟩ := Kd.R_slice HO454.out; subst eo123; obtain ⟨Ao124, co124, eo124⟩ := Kd.R_slice HO458.out; subst eo124) | (go_at_call 10; (with_reducible refine (q2z.calls kj13 _ _ t452 _ _ t456 true _ ?side1 ?side2 ?side3 ?side4 A77.out).mono ?_); (case side1 => repeat (first | exact (Kd.R_reads' HO454.out).2.2 | (with_reducible refine Kd.C_alloc ?_ _) | (with_reducible refine Kd.C_drewN ?_ _) | (with_reducible refine Kd.C_drew ?_))); (case side2 => exact (Kd.R_reads' HO454.out).2.1); (case side3 => repeat (first | exact (Kd.R_reads' HO458.out).2.2 | (with_reducible refine Kd.C_alloc ?_ _) | (with_reducible refine Kd.C_drewN ?_ _) | (with_reducible refine Kd.C_drew ?_))); (case side4 => exact (Kd.R_reads' HO458.out).2.1); rintro e w' ⟨rfl, ⟨nd, rfl⟩⟩) | (go_at_call 16; (with_reducible refine (span_In.calls _ _ t452 a2 t460 _ ?side1 ?side2 A79.out).mono ?_); (case side1 => repeat (first | exact (Kd.R_reads' HO454.out).2.2 | (with_reducible refine Kd.C_alloc ?_ _) | (with_reducible refine Kd.C_drewN ?_ _) | (with_reducible refine Kd.C_drew ?_))); (case side2 => exact (Kd.R_reads' HO454.out).2.1); rintro e w125 ⟨rfl, hb⟩; have n0_ := Aside0.mk (Kd.R_below (by (with_reducible repeat (first | apply Kd.R_alloc | apply Kd.R_drewN | apply Kd.R_drew)); exact HO_7.out) hb); have n1_ := Aside0.mk (Kd.R_below (by (with_reducible repeat (first | apply Kd.R_alloc | apply Kd.R_drewN | apply Kd.R_drew)); exact HO_8.out) hb); have n2_ := Aside0.mk (Kd.R_below (by (with_reducible repeat (first | apply Kd.R_alloc | apply Kd.R_drewN | apply Kd.R_drew)); exact HO448.out) hb); have n3_ := Aside0.mk (Kd.R_below (by (with_reducible repeat (first | apply Kd.R_alloc | apply Kd.R_drewN | apply Kd.R_drew)); exact HO451.out) hb); have n4_ := Aside0.mk (Kd.R_below (by (with_reducible repeat (first | apply Kd.R_alloc | apply Kd.R_drewN | apply Kd.R_drew)); exact HO454.out) hb); have n5_ := Aside0.mk (Kd.R_below (by (with_reducible repeat (first | apply Kd.R_alloc | apply Kd.R_drewN | apply Kd.R_drew)); exact HO458.out) hb); have n6_ := Aside0.mk (below_step (by repeat (first | (with_reducible first | exact HB.out | apply below_alloc | apply pw_below_drewN | apply below_drew1) | exact HB.out)) hb); clear HO_7; clear HO_8; clear HO448; clear HO451; clear HO454; clear HO458; clear HB; have HO_7 := n0_; have HO_8 := n1_; have HO448 := n2_; have HO451 := n3_; have HO454 := n4_; have HO458 := n5_; have HB := n6_; clear n0_ n1_ n2_ n3_ n4_ n5_ n6_; (try clear hb); (try clear hb2); (try clear hk); (try clear hi)) | (go_at_call 16; (with_reducible refine (span_In.calls _ _ l0 a2 false _ ?side1 ?side2 A80.out).mono ?_); (case side1 => repeat (first | exact (Kd.C_below HR0.out HB.out) | (with_reducible refine Kd.C_alloc ?_ _) | (with_reducible refine Kd.C_drewN ?_ _) | (with_reducible refine Kd.C_drew ?_))); (case side2 => exact HC0.out); rintro e w126 ⟨rfl, hb⟩; have n0_ := Aside0.mk (Kd.R_below (by (with_reducible repeat (first | apply Kd.R_alloc | apply Kd.R_drewN | apply Kd.R_drew)); exact HO_7.out) hb); have n1_ := Aside0.mk (Kd.R_below (by (with_reducible repeat (first | apply Kd.R_alloc | apply Kd.R_drewN | apply Kd.R_drew)); exact HO_8.out) hb); have n2_ := Aside0.mk (Kd.R_below (by (with_reducible repeat (first | apply Kd.R_alloc | apply Kd.R_drewN | apply Kd.R_drew)); exact HO448.out) hb); have n3_ := Aside0.mk (Kd.R_below (by (with_reducible repeat (first | apply Kd.R_alloc | apply Kd.R_drewN | apply Kd.R_drew)); exact HO451.out) hb); have n4_ := Aside0.mk (Kd.R_below (by (with_reducible repeat (first | apply Kd.R_alloc | apply Kd.R_drewN | apply Kd.R_drew)); exact HO454.out) hb); have n5_ := Aside0.mk (Kd.R_below (by (with_reducible repeat (first | apply Kd.R_alloc | apply Kd.R_drewN | apply Kd.R_drew)); exact HO458.out) hb); have n6_ := Aside0.mk (below_step (by repeat (first | (with_reducible first | exact HB.out | apply below_alloc | apply pw_below_drewN | apply below_drew1) | exact HB.out)) hb); clear HO_7; clear HO_8; clear HO448; clear HO451; clear HO454; clear HO458; clear HB; have HO_7 := n0_; have HO_8 := n1_; have HO448 := n2_; have HO451 := n3_; have HO454 := n4_; have HO458 := n5_; have HB := n6_; clear n0_ n1_ n2_ n3_ n4_ n5_ n6_; (try clear hb); (try clear hb2); (try clear hk); (try clear hi)) | (go_at_call 16; (with_reducible refine (span_In.calls _ _ l1 a2 t466 _ ?side1 ?side2 A111.out).mono ?_); (case side1 => repeat (first | exact (Kd.C_below HR1.out HB.out) | (with_reducible refine Kd.C_alloc ?_ _) | (with_reducible refine Kd.C_drewN ?_ _) | (with_reducible refine Kd.C_drew ?_))); (case side2 => exact HC1.out); rintro e w127 ⟨rfl, hb⟩; have n0_ := Aside0.mk (Kd.R_below (by (with_reducible repeat (first | apply Kd.R_alloc | apply Kd.R_drewN | apply Kd.R_drew)); exact HO_7.out) hb); have n1_ := Aside0.mk (Kd.R_below (by (with_reducible repeat (first | apply Kd.R_alloc | apply Kd.R_drewN | apply Kd.R_drew)); exact HO_8.out) hb); have n2_ := Aside0.mk (Kd.R_below (by (with_reducible repeat (first | apply Kd.R_alloc | apply Kd.R_drewN | apply Kd.R_drew)); exact HO448.out) hb); have n3_ := Aside0.mk (Kd.R_below (by (with_reducible repeat (first | apply Kd.R_alloc | apply Kd.R_drewN | apply Kd.R_drew)); exact HO451.out) hb); have n4_ := Aside0.mk (Kd.R_below (by (with_reducible repeat (first | apply Kd.R_alloc | apply Kd.R_drewN | apply Kd.R_drew)); exact HO454.out) hb); have n5_ := Aside0.mk (Kd.R_below (by (with_reducible repeat (first | apply Kd.R_alloc | apply Kd.R_drewN | apply Kd.R_drew)); exact HO458.out) hb); have n6_ := Aside0.mk (below_step (by repeat (first | (with_reducible first | exact HB.out | apply below_alloc | apply pw_below_drewN | apply below_drew1) | exact HB.out)) hb); clear HO_7; clear HO_8; clear HO448; clear HO451; clear HO454; clear HO458; clear HB; have HO_7 := n0_; have HO_8 := n1_; have HO448 := n2_; have HO451 := n3_; have HO454 := n4_; have HO458 := n5_; have HB := n6_; clear n0_ n1_ n2_ n3_ n4_ n5_ n6_; (try clear hb); (try clear hb2); (try clear hk); (try clear hi)) | (go_at_call 14; (with_reducible refine (q1z.calls kj13 _ _ t452 t467 _ ?side1 ?side2 A113.out).mono ?_); (case side1 => repeat (first | exact (Kd.R_reads' HO454.out).2.2 | (with_reducible refine Kd.C_alloc ?_ _) | (with_reducible refine Kd.C_drewN ?_ _) | (with_reducible refine Kd.C_drew ?_))); (case side2 => exact (Kd.R_reads' HO454.out).2.1); rintro e w128 ⟨v468, rfl, ho0, hb⟩; have n0_ := Aside0.mk (Kd.R_elder' (by (with_reducible repeat (first | apply Kd.R_alloc | apply Kd.R_drewN | apply Kd.R_drew)); exact HO_7.out) (Kd.R_base ho0) hb); have n1_ := Aside0.mk (Kd.R_elder' (by (with_reducible repeat (first | apply Kd.R_alloc | apply Kd.R_drewN | apply Kd.R_drew)); exact HO_8.out) (Kd.R_base ho0) hb); have n2_ := Aside0.mk (Kd.R_elder' (by (with_reducible repeat (first | apply Kd.R_alloc | apply Kd.R_drewN | apply Kd.R_drew)); exact HO448.out) (Kd.R_base ho0) hb); have n3_ := Aside0.mk (Kd.R_elder' (by (with_reducible repeat (first | apply Kd.R_alloc | apply Kd.R_drewN | apply Kd.R_drew)); exact HO451.out) (Kd.R_base ho0) hb); have n4_ := Aside0.mk (Kd.R_elder' (by (with_reducible repeat (first | apply Kd.R_alloc | apply Kd.R_drewN | apply Kd.R_drew)); exact HO454.out) (Kd.R_base ho0) hb); have n5_ := Aside0.mk (Kd.R_elder' (by (with_reducible repeat (first | apply Kd.R_alloc | apply Kd.R_drewN | apply Kd.R_drew)); exact HO458.out) (Kd.R_base ho0) hb); have n6_ := Aside0.mk (Kd.R_lower (Kd.R_new' (Kd.R_new' (Kd.R_new' (Kd.R_new' (Kd.R_new' (Kd.R_new' ho0 (Kd.R_lt (by (with_reducible repeat (first | apply Kd.R_alloc | apply Kd.R_drewN | apply Kd.R_drew)); exact HO_7.out))) (Kd.R_lt (by (with_reducible repeat (first | apply Kd.R_alloc | apply Kd.R_drewN | apply Kd.R_drew)); exact HO_8.out))) (Kd.R_lt (by (with_reducible repeat (first | apply Kd.R_alloc | apply Kd.R_drewN | apply Kd.R_drew)); exact HO448.out))) (Kd.R_lt (by (with_reducible repeat (first | apply Kd.R_alloc | apply Kd.R_drewN | apply Kd.R_drew)); exact HO451.out))) (Kd.R_lt (by (with_reducible repeat (first | apply Kd.R_alloc | apply Kd.R_drewN | apply Kd.R_drew)); exact HO454.out))) (Kd.R_lt (by (with_reducible repeat (first | apply Kd.R_alloc | apply Kd.R_drewN | apply Kd.R_drew)); exact HO458.out))) (below_size (by repeat (first | (with_reducible first | exact HB.out | apply below_alloc | apply pw_below_drewN | apply below_drew1) | exact HB.out)))); have n7_ := Aside0.mk (below_step (by repeat (first | (with_reducible first | exact HB.out | apply below_alloc | apply pw_below_drewN | apply below_drew1) | exact HB.out)) hb); clear HO_7; clear HO_8; clear HO448; clear HO451; clear HO454; clear HO458; clear HB; have HO_7 := n0_; have HO_8 := n1_; have HO448 := n2_; have HO451 := n3_; have HO454 := n4_; have HO458 := n5_; have HO469 := n6_; have HB := n7_; clear n0_ n1_ n2_ n3_ n4_ n5_ n6_ n7_; (try clear hb); (try clear hb2); (try clear hk); (try clear hi); (try clear ho0); obtain ⟨Ao129, co129, eo129⟩ := Kd.R_slice HO469.out; subst eo129) | (go_at_call 10; (with_reducible refine (q2z.calls kj13 _ _ t467 _ _ t452 t470 _ ?side1 ?side2 ?side3 ?side4 A114.out).mono ?_); (case side1 => repeat (first | exact (Kd.R_reads' HO469.out).2.2 | (with_reducible refine Kd.C_alloc ?_ _) | (with_reducible refine Kd.C_drewN ?_ _) | (with_reducible refine Kd.C_drew ?_))); (case side2 => exact (Kd.R_reads' HO469.out).2.1); (case side3 => repeat (first | exact (Kd.R_reads' HO454.out).2.2 | (with_reducible refine Kd.C_alloc ?_ _) | (with_reducible refine Kd.C_drewN ?_ _) | (with_reducible refine Kd.C_drew ?_))); (case side4 => exact (Kd.R_reads' HO454.out).2.1); rintro e w' ⟨rfl, ⟨nd, rfl⟩⟩))
              go_ret
              exact ⟨by first | rfl | (simp [errW_none, errW_some] <;> rfl) | (simp [*, errW_none, errW_some] <;> rfl), by repeat (first | (with_reducible first | exact HB.out | apply below_alloc | apply pw_below_drewN | apply below_drew1) | exact HB.out)⟩
             ·
              rw [if_neg c112] at H
              have c112b0 : (t460 == t466) = false := by simpa using c112
              (try (have c112b1 : decide (t460 = t466) = false := by simpa using c112))
              (try (have c112b2 : (t460 == t466) = false := by simpa using c112))
              (try (have c112b3 : ¬ (t460 = t466) := by simpa using c112))
              clear c112
              obtain rfl := Option.some.inj H
              go_wp2_with (first | ((with_reducible refine gate_callee (f := 21) rfl ?_); refine goesL_ (some 52) rfl rfl Try.func21 (by kernel_rfl) rfl #[.slice A0 l0.length c0] rfl (by (try simp only [List.map_toArray, List.map_cons, List.map_nil]); first | done | rfl | (simp only [List.length_drop, List.length_take]; rfl)) ?_; (with_reducible refine (q4z.calls kj13 _ _ l0 t446 _ ?side1 ?side2 A70.out).mono ?_); (case side1 => repeat (first | exact (Kd.C_below HR0.out HB.out) | (with_reducible refine Kd.C_alloc ?_ _) | (with_reducible refine Kd.C_drewN ?_ _) | (with_reducible refine Kd.C_drew ?_))); (case side2 => exact HC0.out); rintro e w130 ⟨v447, rfl, ho0, hb⟩; refine ⟨_, rfl, ?_⟩; have n0_ := Aside0.mk (Kd.R_elder' (by (with_reducible repeat (first | apply Kd.R_alloc | apply Kd.R_drewN | apply Kd.R_drew)); exact HO_7.out) (Kd.R_base ho0) hb); have n1_ := Aside0.mk (Kd.R_elder' (by (with_reducible repeat (first | apply Kd.R_alloc | apply Kd.R_drewN | apply Kd.R_drew)); exact HO_8.out) (Kd.R_base ho0) hb); have n2_ := Aside0.mk (Kd.R_lower (Kd.R_new' (Kd.R_new' ho0 (Kd.R_lt (by (with_reducible repeat (first | apply Kd.R_alloc | apply Kd.R_drewN | apply Kd.R_drew)); exact HO_7.out))) (Kd.R_lt (by (with_reducible repeat (first | apply Kd.R_alloc | apply Kd.R_drewN | apply Kd.R_drew)); exact HO_8.out))) (below_size (by repeat (first | (with_reducible first | exact HB.out | apply below_alloc | apply pw_below_drewN | apply below_drew1) | exact HB.out)))); have n3_ := Aside0.mk (below_step (by repeat (first | (with_reducible first | exact HB.out | apply below_alloc | apply pw_below_drewN | apply below_drew1) | exact HB.out)) hb); clear HO_7; clear HO_8; clear HB; have HO_7 := n0_; have HO_8 := n1_; have HO448 := n2_; have HB := n3_; clear n0_ n1_ n2_ n3_; (try clear hb); (try clear hb2); (try clear hk); (try clear hi); (try clear ho0); obtain ⟨Ao131, co131, eo131⟩ := Kd.R_slice HO448.out; subst eo131) | ((with_reducible refine gate_callee (f := 19) rfl ?_); refine goesL_ (some 53) rfl rfl Try.func19 (by kernel_rfl) rfl #[.slice A0 l0.length c0, .slice Ao131 t446.length co131] rfl (by (try simp only [List.map_toArray, List.map_cons, List.map_nil]); first | done | rfl | (simp only [List.length_drop, List.length_take]; rfl)) ?_; (with_reducible refine (span_Union.calls kj13 _ _ l0 _ _ t446 t449 _ ?side1 ?side2 ?side3 ?side4 A71.out).mono ?_); (case side1 => repeat (first | exact (Kd.C_below HR0.out HB.out) | (with_reducible refine Kd.C_alloc ?_ _) | (with_reducible refine Kd.C_drewN ?_ _) | (with_reducible refine Kd.C_drew ?_))); (case side2 => exact HC0.out); (case side3 => repeat (first | exact (Kd.R_reads' HO448.out).2.2 | (with_reducible refine Kd.C_alloc ?_ _) | (with_reducible refine Kd.C_drewN ?_ _) | (with_reducible refine Kd.C_drew ?_))); (case side4 => exact (Kd.R_reads' HO448.out).2.1); rintro e w132 ⟨v450, rfl, ho0, hb⟩; refine ⟨_, rfl, ?_⟩; have n0_ := Aside0.mk (Kd.R_elder' (by (with_reducible repeat (first | apply Kd.R_alloc | apply Kd.R_drewN | apply Kd.R_drew)); exact HO_7.out) (Kd.R_base ho0) hb); have n1_ := Aside0.mk (Kd.R_elder' (by (with_reducible repeat (first | apply Kd.R_alloc | apply Kd.R_drewN | apply Kd.R_drew)); exact HO_8.out) (Kd.R_base ho0) hb); have n2_ := Aside0.mk (Kd.R_elder' (by (with_reducible repeat (first | apply Kd.R_alloc | apply Kd.R_drewN | apply Kd.R_drew)); exact HO448.out) (Kd.R_base ho0) hb); have n3_ := Aside0.mk (Kd.R_lower (Kd.R_new' (Kd.R_new' (Kd.R_new' ho0 (Kd.R_lt (by (with_reducible repeat (first | apply Kd.R_alloc | apply Kd.R_drewN | apply Kd.R_drew)); exact HO_7.out))) (Kd.R_lt (by (with_reducible repeat (first | apply Kd.R_alloc | apply Kd.R_drewN | apply Kd.R_drew)); exact HO_8.out))) (Kd.R_lt (by (with_reducible repeat (first | apply Kd.R_alloc | apply Kd.R_drewN | apply Kd.R_drew)); exact HO448.out))) (below_size (by repeat (first | (with_reducible first | exact HB.out | apply below_alloc | apply pw_below_drewN | apply below_drew1) | exact HB.out)))); have n4_ := Aside0.mk (below_step (by repeat (first | (with_reducible first | exact HB.out | apply below_alloc | apply pw_below_drewN | apply below_drew1) | exact HB.out)) hb); clear HO_7; clear HO_8; clear HO448; clear HB; have HO_7 := n0_; have HO_8 := n1_; have HO448 := n2_; have HO451 := n3_; have HB := n4_; clear n0_ n1_ n2_ n3_ n4_; (try clear hb); (try clear hb2); (try clear hk); (try clear hi); (try clear ho0); obtain ⟨Ao133, co133, eo133⟩ := Kd.R_slice HO_7.out; subst eo133; obtain ⟨Ao134, co134, eo134⟩ := Kd.R_slice HO_8.out; subst eo134) | ((with_reducible refine gate_callee (f := 19) rfl ?_); refine goesL_ (some 56) rfl rfl Try.func19 (by kernel_rfl) rfl #[.slice Ao133 t411.length co133, .slice Ao134 t414.length co134] rfl (by (try simp only [List.map_toArray, List.map_cons, List.map_nil]); first | done | rfl | (simp only [List.length_drop, List.length_take]; rfl)) ?_; (with_reducible refine (span_Union.calls kj13 _ _ t411 _ _ t414 t452 _ ?side1 ?side2 ?side3 ?side4 A72.out).mono ?_); (case side1 => repeat (first | exact (Kd.R_reads' HO_7.out).2.2 | (with_reducible refine Kd.C_alloc ?_ _) | (with_reducible refine Kd.C_drewN ?_ _) | (with_reducible refine Kd.C_drew ?_))); (case side2 => exact (Kd.R_reads' HO_7.out).2.1); (case side3 => repeat (first | exact (Kd.R_reads' HO_8.out).2.2 | (with_reducible refine Kd.C_alloc ?_ _) | (with_reducible refine Kd.C_drewN ?_ _) | (with_reducible refine Kd.C_drew ?_))); (case side4 => exact (Kd.R_reads' HO_8.out).2.1); rintro e w135 ⟨v453, rfl, ho0, hb⟩; refine ⟨_, rfl, ?_⟩; have n0_ := Aside0.mk (Kd.R_elder' (by (with_reducible repeat (first | apply Kd.R_alloc | apply Kd.R_drewN | apply Kd.R_drew)); exact HO_7.out) (Kd.R_base ho0) hb); have n1_ := Aside0.mk (Kd.R_elder' (by (with_reducible repeat (first | apply Kd.R_alloc | apply Kd.R_drewN | apply Kd.R_drew)); exact HO_8.out) (Kd.R_base ho0) hb); have n2_ := Aside0.mk (Kd.R_elder' (by (with_reducible repeat (first | apply Kd.R_alloc | apply Kd.R_drewN | apply Kd.R_drew)); exact HO448.out) (Kd.R_base ho0) hb); have n3_ := Aside0.mk (Kd.R_elder' (by (with_reducible repeat (first | apply Kd.R_alloc | apply Kd.R_drewN | apply Kd.R_drew)); exact HO451.out) (Kd.R_base ho0) hb); have n4_ := Aside0.mk (Kd.R_lower (Kd.R_new' (Kd.R_new' (Kd.R_new' (Kd.R_new' ho0 (Kd.R_lt (by (with_reducible repeat (first | apply Kd.R_alloc | apply Kd.R_drewN | apply Kd.R_drew)); exact HO_7.out))) (Kd.R_lt (by (with_reducible repeat (first | apply Kd.R_alloc | apply Kd.R_drewN | apply Kd.R_drew)); exact HO_8.out))) (Kd.R_lt (by (with_reducible repeat (first | apply Kd.R_alloc | apply Kd.R_drewN | apply Kd.R_drew)); exact HO448.out))) (Kd.R_lt (by (with_reducible repeat (first | apply Kd.R_alloc | apply Kd.R_drewN | apply Kd.R_drew)); exact HO451.out))) (below_size (by repeat (first | (with_reducible first | exact HB.out | apply below_alloc | apply pw_below_drewN | apply below_drew1) | exact HB.out)))); have n5_ := Aside0.mk (below_step (by repeat (first | (with_reducible first | exact HB.out | apply below_alloc | apply pw_below_drewN | apply below_drew1) | exact HB.out)) hb); clear HO_7; clear HO_8; clear HO448; clear HO451; clear HB; have HO_7 := n0_; have HO_8 := n1_; have HO448 := n2_; have HO451 := n3_; have HO454 := n4_; have HB := n5_; clear n0_ n1_ n2_ n3_ n4_ n5_; (try clear hb); (try clear hb2); (try clear hk); (try clear hi); (try clear ho0); obtain ⟨Ao136, co136, eo136⟩ := Kd.R_slice HO451.out; subst eo136; have p455 : 0 ≤ (0 : Int) := (by omega); have q455 : 0 < (t449.length : Int) := of_decide_eq_true (by first | (with_reducible assumption) | assumption); obtain ⟨ad455, e455, hx455_0, hx455_1⟩ := at_T33 (Kd.R_reads' HO451.out).2.2 0 p455 q455; cases e455; have qi455 : (0 < t449.length) = True := eq_true (by omega); (try rw [show ((0 : Int)).toNat = 0 from rfl] at hx455_0); (try rw [show 0 * 2 = 0 from rfl] at hx455_0); (try rw [Addr.add_zero'] at hx455_0); (try rw [show ((0 : Int)).toNat = 0 from rfl] at hx455_1); (try rw [show 0 * 2 = 0 from rfl] at hx455_1); (try rw [Addr.add_zero'] at hx455_1); replace p455 := eq_true p455; replace q455 := eq_true q455) | (go_at_call 19; (with_reducible refine (span_Union.calls kj13 _ _ l1 _ _ l0 t456 _ ?side1 ?side2 ?side3 ?side4 A76.out).mono ?_); (case side1 => repeat (first | exact (Kd.C_below HR1.out HB.out) | (with_reducible refine Kd.C_alloc ?_ _) | (with_reducible refine Kd.C_drewN ?_ _) | (with_reducible refine Kd.C_drew ?_))); (case side2 => exact HC1.out); (case side3 => repeat (first | exact (Kd.C_below HR0.out HB.out) | (with_reducible refine Kd.C_alloc ?_ _) | (with_reducible refine Kd.C_drewN ?_ _) | (with_reducible refine Kd.C_drew ?_))); (case side4 => exact HC0.out); rintro e w137 ⟨v457, rfl, ho0, hb⟩; have n0_ := Aside0.mk (Kd.R_elder' (by (with_reducible repeat (first | apply Kd.R_alloc | apply Kd.R_drewN | apply Kd.R_drew)); exact HO_7.out) (Kd.R_base ho0) hb); have n1_ := Aside0.mk (Kd.R_elder' (by (with_reducible repeat (first | apply Kd.R_alloc | apply Kd.R_drewN | apply Kd.R_drew)); exact HO_8.out) (Kd.R_base ho0) hb); have n2_ := Aside0.mk (Kd.R_elder' (by (with_reducible repeat (first | apply Kd.R_alloc | apply Kd.R_drewN | apply Kd.R_drew)); exact HO448.out) (Kd.R_base ho0) hb); have n3_ := Aside0.mk (Kd.R_elder' (by (with_reducible repeat (first | apply Kd.R_alloc | apply Kd.R_drewN | apply Kd.R_drew)); exact HO451.out) (Kd.R_base ho0) hb); have n4_ := Aside0.mk (Kd.R_elder' (by (with_reducible repeat (first | apply Kd.R_alloc | apply Kd.R_drewN | apply Kd.R_drew)); exact HO454.out) (Kd.R_base ho0) hb); have n5_ := Aside0.mk (Kd.R_lower (Kd.R_new' (Kd.R_new' (Kd.R_new' (Kd.R_new' (Kd.R_new' ho0 (Kd.R_lt (by (with_reducible repeat (first | apply Kd.R_alloc | apply Kd.R_drewN | apply Kd.R_drew)); exact HO_7.out))) (Kd.R_lt (by (with_reducible repeat (first | apply Kd.R_alloc | apply Kd.R_drewN | apply Kd.R_drew)); exact HO_8.out))) (Kd.R_lt (by (with_reducible repeat (first | apply Kd.R_alloc | apply Kd.R_drewN | apply Kd.R_drew)); exact HO448.out))) (Kd.R_lt (by (with_reducible repeat (first | apply Kd.R_alloc | apply Kd.R_drewN | apply Kd.R_drew)); exact HO451.out))) (Kd.R_lt (by (with_reducible repeat (first | apply Kd.R_alloc | apply Kd.R_drewN | apply Kd.R_drew)); exact HO454.out))) (below_size (by repeat (first | (with_reducible first | exact HB.out | apply below_alloc | apply pw_below_drewN | apply below_drew1) | exact HB.out)))); have n6_ := Aside0.mk (below_step (by repeat (first | (with_reducible first | exact HB.out | apply below_alloc | apply pw_below_drewN | apply below_drew1) | exact HB.out)) hb); clear HO_7; clear HO_8; clear HO448; clear HO451; clear HO454; clear HB; have HO_7 := n0_; have HO_8 := n1_; have HO448 := n2_; have HO451 := n3_; have HO454 := n4_; have HO458 := n5_; have HB := n6_; clear n0_ n1_ n2_ n3_ n4_ n5_ n6_; (try clear hb); (try clear hb2); (try clear hk); (try clear hi); (try clear ho0); obtain ⟨Ao138, co138, eo138⟩ := Kd.R_slice HO454.out; subst eo138; obtain ⟨Ao139, co139, eo139⟩ := Kd.R_slice HO458.out; subst eo139) | (go_at_call 10; (with_reducible refine (q2z.calls kj13 _ _ t452 _ _ t456 true _ ?side1 ?side2 ?side3 ?side4 A77.out).mono ?_); (case side1 => repeat (first | exact (Kd.R_reads' HO454.out).2.2 | (with_reducible refine Kd.C_alloc ?_ _) | (with_reducible refine Kd.C_drewN ?_ _) | (with_reducible refine Kd.C_drew ?_))); (case side2 => exact (Kd.R_reads' HO454.out).2.1); (case side3 => repeat (first | exact (Kd.R_reads' HO458.out).2.2 | (with_reducible refine Kd.C_alloc ?_ _) | (with_reducible refine Kd.C_drewN ?_ _) | (with_reducible refine Kd.C_drew ?_))); (case side4 => exact (Kd.R_reads' HO458.out).2.1); rintro e w' ⟨rfl, ⟨nd, rfl⟩⟩) | (go_at_call 16; (with_reducible refine (span_In.calls _ _ t452 a2 t460 _ ?side1 ?side2 A79.out).mono ?_); (case side1 => repeat (first | exact (Kd.R_reads' HO454.out).2.2 | (with_reducible refine Kd.C_alloc ?_ _) | (with_reducible refine Kd.C_drewN ?_ _) | (with_reducible refine Kd.C_drew ?_))); (case side2 => exact (Kd.R_reads' HO454.out).2.1); rintro e w140 ⟨rfl, hb⟩; have n0_ := Aside0.mk (Kd.R_below (by (with_reducible repeat (first | apply Kd.R_alloc | apply Kd.R_drewN | apply Kd.R_drew)); exact HO_7.out) hb); have n1_ := Aside0.mk (Kd.R_below (by (with_reducible repeat (first | apply Kd.R_alloc | apply Kd.R_drewN | apply Kd.R_drew)); exact HO_8.out) hb); have n2_ := Aside0.mk (Kd.R_below (by (with_reducible repeat (first | apply Kd.R_alloc | apply Kd.R_drewN | apply Kd.R_drew)); exact HO448.out) hb); have n3_ := Aside0.mk (Kd.R_below (by (with_reducible repeat (first | apply Kd.R_alloc | apply Kd.R_drewN | apply Kd.R_drew)); exact HO451.out) hb); have n4_ := Aside0.mk (Kd.R_below (by (with_reducible repeat (first | apply Kd.R_alloc | apply Kd.R_drewN | apply Kd.R_drew)); exact HO454.out) hb); have n5_ := Aside0.mk (Kd.R_below (by (with_reducible repeat (first | apply Kd.R_alloc | apply Kd.R_drewN | apply Kd.R_drew)); exact HO458.out) hb); have n6_ := Aside0.mk (below_step (by repeat (first | (with_reducible first | exact HB.out | apply below_alloc | apply pw_below_drewN | apply below_drew1) | exact HB.out)) hb); clear HO_7; clear HO_8; clear HO448; clear HO451; clear HO454; clear HO458; clear HB; have HO_7 := n0_; have HO_8 := n1_; have HO448 := n2_; have HO451 := n3_; have HO454 := n4_; have HO458 := n5_; have HB := n6_; clear n0_ n1_ n2_ n3_ n4_ n5_ n6_; (try clear hb); (try clear hb2); (try clear hk); (try clear hi)) | (go_at_call 16; (with_reducible refine (span_In.calls _ _ l0 a2 false _ ?side1 ?side2 A80.out).mono ?_); (case side1 => repeat (first | exact (Kd.C_below HR0.out HB.out) | (with_reducible refine Kd.C_alloc ?_ _) | (with_reducible refine Kd.C_drewN ?_ _) | (with_reducible refine Kd.C_drew ?_))); (case side2 => exact HC0.out); rintro e w141 ⟨rfl, hb⟩; have n0_ := Aside0.mk (Kd.R_below (by (with_reducible repeat (first | apply Kd.R_alloc | apply Kd.R_drewN | apply Kd.R_drew)); exact HO_7.out) hb); have n1_ := Aside0.mk (Kd.R_below (by (with_reducible repeat (first | apply Kd.R_alloc | apply Kd.R_drewN | apply Kd.R_drew)); exact HO_8.out) hb); have n2_ := Aside0.mk (Kd.R_below (by (with_reducible repeat (first | apply Kd.R_alloc | apply Kd.R_drewN | apply Kd.R_drew)); exact HO448.out) hb); have n3_ := Aside0.mk (Kd.R_below (by (with_reducible repeat (first | apply Kd.R_alloc | apply Kd.R_drewN | apply Kd.R_drew)); exact HO451.out) hb); have n4_ := Aside0.mk (Kd.R_below (by (with_reducible repeat (first | apply Kd.R_alloc | apply Kd.R_drewN | apply Kd.R_drew)); exact HO454.out) hb); have n5_ := Aside0.mk (Kd.R_below (by (with_reducible repeat (first | apply Kd.R_alloc | apply Kd.R_drewN | apply Kd.R_drew)); exact HO458.out) hb); have n6_ := Aside0.mk (below_step (by repeat (first | (with_reducible first | exact HB.out | apply below_alloc | apply pw_below_drewN | apply below_drew1) | exact HB.out)) hb); clear HO_7; clear HO_8; clear HO448; clear HO451; clear HO454; clear HO458; clear HB; have HO_7 := n0_; have HO_8 := n1_; have HO448 := n2_; have HO451 := n3_; have HO454 := n4_; have HO458 := n5_; have HB := n6_; clear n0_ n1_ n2_ n3_ n4_ n5_ n6_; (try clear hb); (try clear hb2); (try clear hk); (try clear hi)) | (go_at_call 16; (with_reducible refine (span_In.calls _ _ l1 a2 t466 _ ?side1 ?side2 A111.out).mono ?_); (case side1 => repeat (first | exact (Kd.C_below HR1.out HB.out) | (with_reducible refine Kd.C_alloc ?_ _) | (with_reducible refine Kd.C_drewN ?_ _) | (with_reducible refine Kd.C_drew ?_))); (case side2 => exact HC1.out); rintro e w142 ⟨rfl, hb⟩; have n0_ := Aside0.mk (Kd.R_below (by (with_reducible repeat (first | apply Kd.R_alloc | apply Kd.R_drewN | apply Kd.R_drew)); exact HO_7.out) hb); have n1_ := Aside0.mk (Kd.R_below (by (with_reducible repeat (first | apply Kd.R_alloc | apply Kd.R_drewN | apply Kd.R_drew)); exact HO_8.out) hb); have n2_ := Aside0.mk (Kd.R_below (by (with_reducible repeat (first | apply Kd.R_alloc | apply Kd.R_drewN | apply Kd.R_drew)); exact HO448.out) hb); have n3_ := Aside0.mk (Kd.R_below (by (with_reducible repeat (first | apply Kd.R_alloc | apply Kd.R_drewN | apply Kd.R_drew)); exact HO451.out) hb); have n4_ := Aside0.mk (Kd.R_below (by (with_reducible repeat (first | apply Kd.R_alloc | apply Kd.R_drewN | apply Kd.R_drew)); exact HO454.out) hb); have n5_ := Aside0.mk (Kd.R_below (by (with_reducible repeat (first | apply Kd.R_alloc | apply Kd.R_drewN | apply Kd.R_drew)); exact HO458.out) hb); have n6_ := Aside0.mk (below_step (by repeat (first | (with_reducible first | exact HB.out | apply below_alloc | apply pw_below_drewN | apply below_drew1) | exact HB.out)) hb); clear HO_7; clear HO_8; clear HO448; clear HO451; clear HO454; clear HO458; clear HB; have HO_7 := n0_; have HO_8 := n1_; have HO448 := n2_; have HO451 := n3_; have HO454 := n4_; have HO458 := n5_; have HB := n6_; clear n0_ n1_ n2_ n3_ n4_ n5_ n6_; (try clear hb); (try clear hb2); (try clear hk); (try clear hi)))
              go_ret
              exact ⟨by first | rfl | (simp [errW_none, errW_some] <;> rfl) | (simp [*, errW_none, errW_some] <;> rfl), by repeat (first | (with_reducible first | exact HB.out | apply below_alloc | apply pw_below_drewN | apply below_drew1) | exact HB.out)⟩
           ·
            replace c78 := Bool.eq_false_iff.mpr c78
            subst c78
            have H1 : (some false) = some r := by rw [if_neg (show ¬ (false = true) by decide)] at H; exact H
            clear H
            have H := H1
            clear H1
            obtain rfl := Option.some.inj H
            go_wp2_with (first | ((with_reducible refine gate_callee (f := 21) rfl ?_); refine goesL_ (some 52) rfl rfl Try.func21 (by kernel_rfl) rfl #[.slice A0 l0.length c0] rfl (by (try simp only [List.map_toArray, List.map_cons, List.map_nil]); first | done | rfl | (simp only [List.length_drop, List.length_take]; rfl)) ?_; (with_reducible refine (q4z.calls kj13 _ _ l0 t446 _ ?side1 ?side2 A70.out).mono ?_); (case side1 => repeat (first | exact (Kd.C_below HR0.out HB.out) | (with_reducible refine Kd.C_alloc ?_ _) | (with_reducible refine Kd.C_drewN ?_ _) | (with_reducible refine Kd.C_drew ?_))); (case side2 => exact HC0.out); rintro e w143 ⟨v447, rfl, ho0, hb⟩; refine ⟨_, rfl, ?_⟩; have n0_ := Aside0.mk (Kd.R_elder' (by (with_reducible repeat (first | apply Kd.R_alloc | apply Kd.R_drewN | apply Kd.R_drew)); exact HO_7.out) (Kd.R_base ho0) hb); have n1_ := Aside0.mk (Kd.R_elder' (by (with_reducible repeat (first | apply Kd.R_alloc | apply Kd.R_drewN | apply Kd.R_drew)); exact HO_8.out) (Kd.R_base ho0) hb); have n2_ := Aside0.mk (Kd.R_lower (Kd.R_new' (Kd.R_new' ho0 (Kd.R_lt (by (with_reducible repeat (first | apply Kd.R_alloc | apply Kd.R_drewN | apply Kd.R_drew)); exact HO_7.out))) (Kd.R_lt (by (with_reducible repeat (first | apply Kd.R_alloc | apply Kd.R_drewN | apply Kd.R_drew)); exact HO_8.out))) (below_size (by repeat (first | (with_reducible first | exact HB.out | apply below_alloc | apply pw_below_drewN | apply below_drew1) | exact HB.out)))); have n3_ := Aside0.mk (below_step (by repeat (first | (with_reducible first | exact HB.out | apply below_alloc | apply pw_below_drewN | apply below_drew1) | exact HB.out)) hb); clear HO_7; clear HO_8; clear HB; have HO_7 := n0_; have HO_8 := n1_; have HO448 := n2_; have HB := n3_; clear n0_ n1_ n2_ n3_; (try clear hb); (try clear hb2); (try clear hk); (try clear hi); (try clear ho0); obtain ⟨Ao144, co144, eo144⟩ := Kd.R_slice HO448.out; subst eo144) | ((with_reducible refine gate_callee (f := 19) rfl ?_); refine goesL_ (some 53) rfl rfl Try.func19 (by kernel_rfl) rfl #[.slice A0 l0.length c0, .slice Ao144 t446.length co144] rfl (by (try simp only [List.map_toArray, List.map_cons, List.map_nil]); first | done | rfl | (simp only [List.length_drop, List.length_take]; rfl)) ?_; (with_reducible refine (span_Union.calls kj13 _ _ l0 _ _ t446 t449 _ ?side1 ?side2 ?side3 ?side4 A71.out).mono ?_); (case side1 => repeat (first | exact (Kd.C_below HR0.out HB.out) | (with_reducible refine Kd.C_alloc ?_ _) | (with_reducible refine Kd.C_drewN ?_ _) | (with_reducible refine Kd.C_drew ?_))); (case side2 => exact HC0.out); (case side3 => repeat (first | exact (Kd.R_reads' HO448.out).2.2 | (with_reducible refine Kd.C_alloc ?_ _) | (with_reducible refine Kd.C_drewN ?_ _) | (with_reducible refine Kd.C_drew ?_))); (case side4 => exact (Kd.R_reads' HO448.out).2.1); rintro e w145 ⟨v450, rfl, ho0, hb⟩; refine ⟨_, rfl, ?_⟩; have n0_ := Aside0.mk (Kd.R_elder' (by (with_reducible repeat (first | apply Kd.R_alloc | apply Kd.R_drewN | apply Kd.R_drew)); exact HO_7.out) (Kd.R_base ho0) hb); have n1_ := Aside0.mk (Kd.R_elder' (by (with_reducible repeat (first | apply Kd.R_alloc | apply Kd.R_drewN | apply Kd.R_drew)); exact HO_8.out) (Kd.R_base ho0) hb); have n2_ := Aside0.mk (Kd.R_elder' (by (with_reducible repeat (first | apply Kd.R_alloc | apply Kd.R_drewN | apply Kd.R_drew)); exact HO448.out) (Kd.R_base ho0) hb); have n3_ := Aside0.mk (Kd.R_lower (Kd.R_new' (Kd.R_new' (Kd.R_new' ho0 (Kd.R_lt (by (with_reducible repeat (first | apply Kd.R_alloc | apply Kd.R_drewN | apply Kd.R_drew)); exact HO_7.out))) (Kd.R_lt (by (with_reducible repeat (first | apply Kd.R_alloc | apply Kd.R_drewN | apply Kd.R_drew)); exact HO_8.out))) (Kd.R_lt (by (with_reducible repeat (first | apply Kd.R_alloc | apply Kd.R_drewN | apply Kd.R_drew)); exact HO448.out))) (below_size (by repeat (first | (with_reducible first | exact HB.out | apply below_alloc | apply pw_below_drewN | apply below_drew1) | exact HB.out)))); have n4_ := Aside0.mk (below_step (by repeat (first | (with_reducible first | exact HB.out | apply below_alloc | apply pw_below_drewN | apply below_drew1) | exact HB.out)) hb); clear HO_7; clear HO_8; clear HO448; clear HB; have HO_7 := n0_; have HO_8 := n1_; have HO448 := n2_; have HO451 := n3_; have HB := n4_; clear n0_ n1_ n2_ n3_ n4_; (try clear hb); (try clear hb2); (try clear hk); (try clear hi); (try clear ho0); obtain ⟨Ao146, co146, eo146⟩ := Kd.R_slice HO_7.out; subst eo146; obtain ⟨Ao147, co147, eo147⟩ := Kd.R_slice HO_8.out; subst eo147) | ((with_reducible refine gate_callee (f := 19) rfl ?_); refine goesL_ (some 56) rfl rfl Try.func19 (by kernel_rfl) rfl #[.slice Ao146 t411.length co146, .slice Ao147 t414.length co147] rfl (by (try simp only [List.map_toArray, List.map_cons, List.map_nil]); first | done | rfl | (simp only [List.length_drop, List.length_take]; rfl)) ?_; (with_reducible refine (span_Union.calls kj13 _ _ t411 _ _ t414 t452 _ ?side1 ?side2 ?side3 ?side4 A72.out).mono ?_); (case side1 => repeat (first | exact (Kd.R_reads' HO_7.out).2.2 | (with_reducible refine Kd.C_alloc ?_ _) | (with_reducible refine Kd.C_drewN ?_ _) | (with_reducible refine Kd.C_drew ?_))); (case side2 => exact (Kd.R_reads' HO_7.out).2.1); (case side3 => repeat (first | exact (Kd.R_reads' HO_8.out).2.2 | (with_reducible refine Kd.C_alloc ?_ _) | (with_reducible refine Kd.C_drewN ?_ _) | (with_reducible refine Kd.C_drew ?_))); (case side4 => exact (Kd.R_reads' HO_8.out).2.1); rintro e w148 ⟨v453, rfl, ho0, hb⟩; refine ⟨_, rfl, ?_⟩; have n0_ := Aside0.mk (Kd.R_elder' (by (with_reducible repeat (first | apply Kd.R_alloc | apply Kd.R_drewN | apply Kd.R_drew)); exact HO_7.out) (Kd.R_base ho0) hb); have n1_ := Aside0.mk (Kd.R_elder' (by (with_reducible repeat (first | apply Kd.R_alloc | apply Kd.R_drewN | apply Kd.R_drew)); exact HO_8.out) (Kd.R_base ho0) hb); have n2_ := Aside0.mk (Kd.R_elder' (by (with_reducible repeat (first | apply Kd.R_alloc | apply Kd.R_drewN | apply Kd.R_drew)); exact HO448.out) (Kd.R_base ho0) hb); have n3_ := Aside0.mk (Kd.R_elder' (by (with_reducible repeat (first | apply Kd.R_alloc | apply Kd.R_drewN | apply Kd.R_drew)); exact HO451.out) (Kd.R_base ho0) hb); have n4_ := Aside0.mk (Kd.R_lower (Kd.R_new' (Kd.R_new' (Kd.R_new' (Kd.R_new' ho0 (Kd.R_lt (by (with_reducible repeat (first | apply Kd.R_alloc | apply Kd.R_drewN | apply Kd.R_drew)); exact HO_7.out))) (Kd.R_lt (by (with_reducible repeat (first | apply Kd.R_alloc | apply Kd.R_drewN | apply Kd.R_drew)); exact HO_8.out))) (Kd.R_lt (by (with_reducible repeat (first | apply Kd.R_alloc | apply Kd.R_drewN | apply Kd.R_drew)); exact HO448.out))) (Kd.R_lt (by (with_reducible repeat (first | apply Kd.R_alloc | apply Kd.R_drewN | apply Kd.R_drew)); exact HO451.out))) (below_size (by repeat (first | (with_reducible first | exact HB.out | apply below_alloc | apply pw_below_drewN | apply below_drew1) | exact HB.out)))); have n5_ := Aside0.mk (below_step (by repeat (first | (with_reducible first | exact HB.out | apply below_alloc | apply pw_below_drewN | apply below_drew1) | exact HB.out)) hb); clear HO_7; clear HO_8; clear HO448; clear HO451; clear HB; have HO_7 := n0_; have HO_8 := n1_; have HO448 := n2_; have HO451 := n3_; have HO454 := n4_; have HB := n5_; clear n0_ n1_ n2_ n3_ n4_ n5_; (try clear hb); (try clear hb2); (try clear hk); (try clear hi); (try clear ho0); obtain ⟨Ao149, co149, eo149⟩ := Kd.R_slice HO451.out; subst eo149; have p455 : 0 ≤ (0 : Int) := (by omega); have q455 : 0 < (t449.length : Int) := of_decide_eq_true (by first | (with_reducible assumption) | assumption); obtain ⟨ad455, e455, hx455_0, hx455_1⟩ := at_T33 (Kd.R_reads' HO451.out).2.2 0 p455 q455; cases e455; have qi455 : (0 < t449.length) = True := eq_true (by omega); (try rw [show ((0 : Int)).toNat = 0 from rfl] at hx455_0); (try rw [show 0 * 2 = 0 from rfl] at hx455_0); (try rw [Addr.add_zero'] at hx455_0); (try rw [show ((0 : Int)).toNat = 0 from rfl] at hx455_1); (try rw [show 0 * 2 = 0 from rfl] at hx455_1); (try rw [Addr.add_zero'] at hx455_1); replace p455 := eq_true p455; replace q455 := eq_true q455) | (go_at_call 19; (with_reducible refine (span_Union.calls kj13 _ _ l1 _ _ l0 t456 _ ?side1 ?side2 ?side3 ?side4 A76.out).mono ?_); (case side1 => repeat (first | exact (Kd.C_below HR1.out HB.out) | (with_reducible refine Kd.C_alloc ?_ _) | (with_reducible refine Kd.C_drewN ?_ _) | (with_reducible refine Kd.C_drew ?_))); (case side2 => exact HC1.out); (case side3 => repeat (first | exact (Kd.C_below HR0.out HB.out) | (with_reducible refine Kd.C_alloc ?_ _) | (with_reducible refine Kd.C_drewN ?_ _) | (with_reducible refine Kd.C_drew ?_))); (case side4 => exact HC0.out); rintro e w150 ⟨v457, rfl, ho0, hb⟩; have n0_ := Aside0.mk (Kd.R_elder' (by (with_reducible repeat (first | apply Kd.R_alloc | apply Kd.R_drewN | apply Kd.R_drew)); exact HO_7.out) (Kd.R_base ho0) hb); have n1_ := Aside0.mk (Kd.R_elder' (by (with_reducible repeat (first | apply Kd.R_alloc | apply Kd.R_drewN | apply Kd.R_drew)); exact HO_8.out) (Kd.R_base ho0) hb); have n2_ := Aside0.mk (Kd.R_elder' (by (with_reducible repeat (first | apply Kd.R_alloc | apply Kd.R_drewN | apply Kd.R_drew)); exact HO448.out) (Kd.R_base ho0) hb); have n3_ := Aside0.mk (Kd.R_elder' (by (with_reducible repeat (first | apply Kd.R_alloc | apply Kd.R_drewN | apply Kd.R_drew)); exact HO451.out) (Kd.R_base ho0) hb); have n4_ := Aside0.mk (Kd.R_elder' (by (with_reducible repeat (first | apply Kd.R_alloc | apply Kd.R_drewN | apply Kd.R_drew)); exact HO454.out) (Kd.R_base ho0) hb); have n5_ := Aside0.mk (Kd.R_lower (Kd.R_new' (Kd.R_new' (Kd.R_new' (Kd.R_new' (Kd.R_new' ho0 (Kd.R_lt (by (with_reducible repeat (first | apply Kd.R_alloc | apply Kd.R_drewN | apply Kd.R_drew)); exact HO_7.out))) (Kd.R_lt (by (with_reducible repeat (first | apply Kd.R_alloc | apply Kd.R_drewN | apply Kd.R_drew)); exact HO_8.out))) (Kd.R_lt (by (with_reducible repeat (first | apply Kd.R_alloc | apply Kd.R_drewN | apply Kd.R_drew)); exact HO448.out))) (Kd.R_lt (by (with_reducible repeat (first | apply Kd.R_alloc | apply Kd.R_drewN | apply Kd.R_drew)); exact HO451.out))) (Kd.R_lt (by (with_reducible repeat (first | apply Kd.R_alloc | apply Kd.R_drewN | apply Kd.R_drew)); exact HO454.out))) (below_size (by repeat (first | (with_reducible first | exact HB.out | apply below_alloc | apply pw_below_drewN | apply below_drew1) | exact HB.out)))); have n6_ := Aside0.mk (below_step (by repeat (first | (with_reducible first | exact HB.out | apply below_alloc | apply pw_below_drewN | apply below_drew1) | exact HB.out)) hb); clear HO_7; clear HO_8; clear HO448; clear HO451; clear HO454; clear HB; have HO_7 := n0_; have HO_8 := n1_; have HO448 := n2_; have HO451 := n3_; have HO454 := n4_; have HO458 := n5_; have HB := n6_; clear n0_ n1_ n2_ n3_ n4_ n5_ n6_; (try clear hb); (try clear hb2); (try clear hk); (try clear hi); (try clear ho0); obtain ⟨Ao151, co151, eo151⟩ := Kd.R_slice HO454.out; subst eo151; obtain ⟨Ao152, co152, eo152⟩ := Kd.R_slice HO458.out; subst eo152) | (go_at_call 10; (with_reducible refine (q2z.calls kj13 _ _ t452 _ _ t456 false _ ?side1 ?side2 ?side3 ?side4 A77.out).mono ?_); (case side1 => repeat (first | exact (Kd.R_reads' HO454.out).2.2 | (with_reducible refine Kd.C_alloc ?_ _) | (with_reducible refine Kd.C_drewN ?_ _) | (with_reducible refine Kd.C_drew ?_))); (case side2 => exact (Kd.R_reads' HO454.out).2.1); (case side3 => repeat (first | exact (Kd.R_reads' HO458.out).2.2 | (with_reducible refine Kd.C_alloc ?_ _) | (with_reducible refine Kd.C_drewN ?_ _) | (with_reducible refine Kd.C_drew ?_))); (case side4 => exact (Kd.R_reads' HO458.out).2.1); rintro e w' ⟨rfl, ⟨nd, rfl⟩⟩))
            go_ret
            exact ⟨by first | rfl | (simp [errW_none, errW_some] <;> rfl) | (simp [*, errW_none, errW_some] <;> rfl), by repeat (first | (with_reducible first | exact HB.out | apply below_alloc | apply pw_below_drewN | apply below_drew1) | exact HB.out)⟩
          ·
           rw [if_neg c75] at H
           have c75b0 : (((rd_T33 t449 0).f0) == 0 && (((rd_T33 t449 0).f1) == 4294967295)) = false := by simpa using c75
           (try (have c75b1 : decide (((rd_T33 t449 0).f0) = 0 && (((rd_T33 t449 0).f1) == 4294967295)) = false := by simpa using c75))
           (try (have c75b2 : (((rd_T33 t449 0).f0) == 0 && (((rd_T33 t449 0).f1) == 4294967295)) = false := by simpa using c75))
           (try (have c75b3 : ¬ (((rd_T33 t449 0).f0) = 0 && (((rd_T33 t449 0).f1) == 4294967295)) := by simpa using c75))
           clear c75
           obtain rfl := Option.some.inj H
           go_wp2_with (first | ((with_reducible refine gate_callee (f := 21) rfl ?_); refine goesL_ (some 52) rfl rfl Try.func21 (by kernel_rfl) rfl #[.slice A0 l0.length c0] rfl (by (try simp only [List.map_toArray, List.map_cons, List.map_nil]); first | done | rfl | (simp only [List.length_drop, List.length_take]; rfl)) ?_; (with_reducible refine (q4z.calls kj13 _ _ l0 t446 _ ?side1 ?side2 A70.out).mono ?_); (case side1 => repeat (first | exact (Kd.C_below HR0.out HB.out) | (with_reducible refine Kd.C_alloc ?_ _) | (with_reducible refine Kd.C_drewN ?_ _) | (with_reducible refine Kd.C_drew ?_))); (case side2 => exact HC0.out); rintro e w153 ⟨v447, rfl, ho0, hb⟩; refine ⟨_, rfl, ?_⟩; have n0_ := Aside0.mk (Kd.R_elder' (by (with_reducible repeat (first | apply Kd.R_alloc | apply Kd.R_drewN | apply Kd.R_drew)); exact HO_7.out) (Kd.R_base ho0) hb); have n1_ := Aside0.mk (Kd.R_elder' (by (with_reducible repeat (first | apply Kd.R_alloc | apply Kd.R_drewN | apply Kd.R_drew)); exact HO_8.out) (Kd.R_base ho0) hb); have n2_ := Aside0.mk (Kd.R_lower (Kd.R_new' (Kd.R_new' ho0 (Kd.R_lt (by (with_reducible repeat (first | apply Kd.R_alloc | apply Kd.R_drewN | apply Kd.R_drew)); exact HO_7.out))) (Kd.R_lt (by (with_reducible repeat (first | apply Kd.R_alloc | apply Kd.R_drewN | apply Kd.R_drew)); exact HO_8.out))) (below_size (by repeat (first | (with_reducible first | exact HB.out | apply below_alloc | apply pw_below_drewN | apply below_drew1) | exact HB.out)))); have n3_ := Aside0.mk (below_step (by repeat (first | (with_reducible first | exact HB.out | apply below_alloc | apply pw_below_drewN | apply below_drew1) | exact HB.out)) hb); clear HO_7; clear HO_8; clear HB; have HO_7 := n0_; have HO_8 := n1_; have HO448 := n2_; have HB := n3_; clear n0_ n1_ n2_ n3_; (try clear hb); (try clear hb2); (try clear hk); (try clear hi); (try clear ho0); obtain ⟨Ao154, co154, eo154⟩ := Kd.R_slice HO448.out; subst eo154) | ((with_reducible refine gate_callee (f := 19) rfl ?_); refine goesL_ (some 53) rfl rfl Try.func19 (by kernel_rfl) rfl #[.slice A0 l0.length c0, .slice Ao154 t446.length co154] rfl (by (try simp only [List.map_toArray, List.map_cons, List.map_nil]); first | done | rfl | (simp only [List.length_drop, List.length_take]; rfl)) ?_; (with_reducible refine (span_Union.calls kj13 _ _ l0 _ _ t446 t449 _ ?side1 ?side2 ?side3 ?side4 A71.out).mono ?_); (case side1 => repeat (first | exact (Kd.C_below HR0.out HB.out) | (with_reducible refine Kd.C_alloc ?_ _) | (with_reducible refine Kd.C_drewN ?_ _) | (with_reducible refine Kd.C_drew ?_))); (case side2 => exact HC0.out); (case side3 => repeat (first | exact (Kd.R_reads' HO448.out).2.2 | (with_reducible refine Kd.C_alloc ?_ _) | (with_reducible refine Kd.C_drewN ?_ _) | (with_reducible refine Kd.C_drew ?_))); (case side4 => exact (Kd.R_reads' HO448.out).2.1); rintro e w155 ⟨v450, rfl, ho0, hb⟩; refine ⟨_, rfl, ?_⟩; have n0_ := Aside0.mk (Kd.R_elder' (by (with_reducible repeat (first | apply Kd.R_alloc | apply Kd.R_drewN | apply Kd.R_drew)); exact HO_7.out) (Kd.R_base ho0) hb); have n1_ := Aside0.mk (Kd.R_elder' (by (with_reducible repeat (first | apply Kd.R_alloc | apply Kd.R_drewN | apply Kd.R_drew)); exact HO_8.out) (Kd.R_base ho0) hb); have n2_ := Aside0.mk (Kd.R_elder' (by (with_reducible repeat (first | apply Kd.R_alloc | apply Kd.R_drewN | apply Kd.R_drew)); exact HO448.out) (Kd.R_base ho0) hb); have n3_ := Aside0.mk (Kd.R_lower (Kd.R_new' (Kd.R_new' (Kd.R_new' ho0 (Kd.R_lt (by (with_reducible repeat (first | apply Kd.R_alloc | apply Kd.R_drewN | apply Kd.R_drew)); exact HO_7.out))) (Kd.R_lt (by (with_reducible repeat (first | apply Kd.R_alloc | apply Kd.R_drewN | apply Kd.R_drew)); exact HO_8.out))) (Kd.R_lt (by (with_reducible repeat (first | apply Kd.R_alloc | apply Kd.R_drewN | apply Kd.R_drew)); exact HO448.out))) (below_size (by repeat (first | (with_reducible first | exact HB.out | apply below_alloc | apply pw_below_drewN | apply below_drew1) | exact HB.out)))); have n4_ := Aside0.mk (below_step (by repeat (first | (with_reducible first | exact HB.out | apply below_alloc | apply pw_below_drewN | apply below_drew1) | exact HB.out)) hb); clear HO_7; clear HO_8; clear HO448; clear HB; have HO_7 := n0_; have HO_8 := n1_; have HO448 := n2_; have HO451 := n3_; have HB := n4_; clear n0_ n1_ n2_ n3_ n4_; (try clear hb); (try clear hb2); (try clear hk); (try clear hi); (try clear ho0); obtain ⟨Ao156, co156, eo156⟩ := Kd.R_slice HO_7.out; subst eo156; obtain ⟨Ao157, co157, eo157⟩ := Kd.R_slice HO_8.out; subst eo157) | ((with_reducible refine gate_callee (f := 19) rfl ?_); refine goesL_ (some 56) rfl rfl Try.func19 (by kernel_rfl) rfl #[.slice Ao156 t411.length co156, .slice Ao157 t414.length co157] rfl (by (try simp only [List.map_toArray, List.map_cons, List.map_nil]); first | done | rfl | (simp only [List.length_drop, List.length_take]; rfl)) ?_; (with_reducible refine (span_Union.calls kj13 _ _ t411 _ _ t414 t452 _ ?side1 ?side2 ?side3 ?side4 A72.out).mono ?_); (case side1 => repeat (first | exact (Kd.R_reads' HO_7.out).2.2 | (with_reducible refine Kd.C_alloc ?_ _) | (with_reducible refine Kd.C_drewN ?_ _) | (with_reducible refine Kd.C_drew ?_))); (case side2 => exact (Kd.R_reads' HO_7.out).2.1); (case side3 => repeat (first | exact (Kd.R_reads' HO_8.out).2.2 | (with_reducible refine Kd.C_alloc ?_ _) | (with_reducible refine Kd.C_drewN ?_ _) | (with_reducible refine Kd.C_drew ?_))); (case side4 => exact (Kd.R_reads' HO_8.out).2.1); rintro e w158 ⟨v453, rfl, ho0, hb⟩; refine ⟨_, rfl, ?_⟩; have n0_ := Aside0.mk (Kd.R_elder' (by (with_reducible repeat (first | apply Kd.R_alloc | apply Kd.R_drewN | apply Kd.R_drew)); exact HO_7.out) (Kd.R_base ho0) hb); have n1_ := Aside0.mk (Kd.R_elder' (by (with_reducible repeat (first | apply Kd.R_alloc | apply Kd.R_drewN | apply Kd.R_drew)); exact HO_8.out) (Kd.R_base ho0) hb); have n2_ := Aside0.mk (Kd.R_elder' (by (with_reducible repeat (first | apply Kd.R_alloc | apply Kd.R_drewN | apply Kd.R_drew)); exact HO448.out) (Kd.R_base ho0) hb); have n3_ := Aside0.mk (Kd.R_elder' (by (with_reducible repeat (first | apply Kd.R_alloc | apply Kd.R_drewN | apply Kd.R_drew)); exact HO451.out) (Kd.R_base ho0) hb); have n4_ := Aside0.mk (Kd.R_lower (Kd.R_new' (Kd.R_new' (Kd.R_new' (Kd.R_new' ho0 (Kd.R_lt (by (with_reducible repeat (first | apply Kd.R_alloc | apply Kd.R_drewN | apply Kd.R_drew)); exact HO_7.out))) (Kd.R_lt (by (with_reducible repeat (first | apply Kd.R_alloc | apply Kd.R_drewN | apply Kd.R_drew)); exact HO_8.out))) (Kd.R_lt (by (with_reducible repeat (first | apply Kd.R_alloc | apply Kd.R_drewN | apply Kd.R_drew)); exact HO448.out))) (Kd.R_lt (by (with_reducible repeat (first | apply Kd.R_alloc | apply Kd.R_drewN | apply Kd.R_drew)); exact HO451.out))) (below_size (by repeat (first | (with_reducible first | exact HB.out | apply below_alloc | apply pw_below_drewN | apply below_drew1) | exact HB.out)))); have n5_ := Aside0.mk (below_step (by repeat (first | (with_reducible first | exact HB.out | apply below_alloc | apply pw_below_drewN | apply below_drew1) | exact HB.out)) hb); clear HO_7; clear HO_8; clear HO448; clear HO451; clear HB; have HO_7 := n0_; have HO_8 := n1_; have HO448 := n2_; have HO451 := n3_; have HO454 := n4_; have HB := n5_; clear n0_ n1_ n2_ n3_ n4_ n5_; (try clear hb); (try clear hb2); (try clear hk); (try clear hi); (try clear ho0); obtain ⟨Ao159, co159, eo159⟩ := Kd.R_slice HO451.out; subst eo159; have p455 : 0 ≤ (0 : Int) := (by omega); have q455 : 0 < (t449.length : Int) := of_decide_eq_true (by first | (with_reducible assumption) | assumption); obtain ⟨ad455, e455, hx455_0, hx455_1⟩ := at_T33 (Kd.R_reads' HO451.out).2.2 0 p455 q455; cases e455; have qi455 : (0 < t449.length) = True := eq_true (by omega); (try rw [show ((0 : Int)).toNat = 0 from rfl] at hx455_0); (try rw [show 0 * 2 = 0 from rfl] at hx455_0); (try rw [Addr.add_zero'] at hx455_0); (try rw [show ((0 : Int)).toNat = 0 from rfl] at hx455_1); (try rw [show 0 * 2 = 0 from rfl] at hx455_1); (try rw [Addr.add_zero'] at hx455_1); replace p455 := eq_true p455; replace q455 := eq_true q455))
           go_ret
           exact ⟨by first | rfl | (simp [errW_none, errW_some] <;> rfl) | (simp [*, errW_none, errW_some] <;> rfl), by repeat (first | (with_reducible first | exact HB.out | apply below_alloc | apply pw_below_drewN | apply below_drew1) | exact HB.out)⟩
         ·
          rw [if_neg c74] at H
          exact absurd H (by simp)
        ·
         rw [if_neg c73] at H
         have c73b0 : ((t449.length : Int) == 1) = false := beq_eq_false_iff_ne.mpr c73
         have c73b1 : ((t449.length : Int) != 1) = true := bne_iff_ne.mpr c73
         obtain rfl := Option.some.inj H
         go_wp2_with (first | ((with_reducible refine gate_callee (f := 21) rfl ?_); refine goesL_ (some 52) rfl rfl Try.func21 (by kernel_rfl) rfl #[.slice A0 l0.length c0] rfl (by (try simp only [List.map_toArray, List.map_cons, List.map_nil]); first | done | rfl | (simp only [List.length_drop, List.length_take]; rfl)) ?_; (with_reducible refine (q4z.calls kj13 _ _ l0 t446 _ ?side1 ?side2 A70.out).mono ?_); (case side1 => repeat (first | exact (Kd.C_below HR0.out HB.out) | (with_reducible refine Kd.C_alloc ?_ _) | (with_reducible refine Kd.C_drewN ?_ _) | (with_reducible refine Kd.C_drew ?_))); (case side2 => exact HC0.out); rintro e w160 ⟨v447, rfl, ho0, hb⟩; refine ⟨_, rfl, ?_⟩; have n0_ := Aside0.mk (Kd.R_elder' (by (with_reducible repeat (first | apply Kd.R_alloc | apply Kd.R_drewN | apply Kd.R_drew)); exact HO_7.out) (Kd.R_base ho0) hb); have n1_ := Aside0.mk (Kd.R_elder' (by (with_reducible repeat (first | apply Kd.R_alloc | apply Kd.R_drewN | apply Kd.R_drew)); exact HO_8.out) (Kd.R_base ho0) hb); have n2_ := Aside0.mk (Kd.R_lower (Kd.R_new' (Kd.R_new' ho0 (Kd.R_lt (by (with_reducible repeat (first | apply Kd.R_alloc | apply Kd.R_drewN | apply Kd.R_drew)); exact HO_7.out))) (Kd.R_lt (by (with_reducible repeat (first | apply Kd.R_alloc | apply Kd.R_drewN | apply Kd.R_drew)); exact HO_8.out))) (below_size (by repeat (first | (with_reducible first | exact HB.out | apply below_alloc | apply pw_below_drewN | apply below_drew1) | exact HB.out)))); have n3_ := Aside0.mk (below_step (by repeat (first | (with_reducible first | exact HB.out | apply below_alloc | apply pw_below_drewN | apply below_drew1) | exact HB.out)) hb); clear HO_7; clear HO_8; clear HB; have HO_7 := n0_; have HO_8 := n1_; have HO448 := n2_; have HB := n3_; clear n0_ n1_ n2_ n3_; (try clear hb); (try clear hb2); (try clear hk); (try clear hi); (try clear ho0); obtain ⟨Ao161, co161, eo161⟩ := Kd.R_slice HO448.out; subst eo161) | ((with_reducible refine gate_callee (f := 19) rfl ?_); refine goesL_ (some 53) rfl rfl Try.func19 (by kernel_rfl) rfl #[.slice A0 l0.length c0, .slice Ao161 t446.length co161] rfl (by (try simp only [List.map_toArray, List.map_cons, List.map_nil]); first | done | rfl | (simp only [List.length_drop, List.length_take]; rfl)) ?_; (with_reducible refine (span_Union.calls kj13 _ _ l0 _ _ t446 t449 _ ?side1 ?side2 ?side3 ?side4 A71.out).mono ?_); (case side1 => repeat (first | exact (Kd.C_below HR0.out HB.out) | (with_reducible refine Kd.C_alloc ?_ _) | (with_reducible refine Kd.C_drewN ?_ _) | (with_reducible refine Kd.C_drew ?_))); (case side2 => exact HC0.out); (case side3 => repeat (first | exact (Kd.R_reads' HO448.out).2.2 | (with_reducible refine Kd.C_alloc ?_ _) | (with_reducible refine Kd.C_drewN ?_ _) | (with_reducible refine Kd.C_drew ?_))); (case side4 => exact (Kd.R_reads' HO448.out).2.1); rintro e w162 ⟨v450, rfl, ho0, hb⟩; refine ⟨_, rfl, ?_⟩; have n0_ := Aside0.mk (Kd.R_elder' (by (with_reducible repeat (first | apply Kd.R_alloc | apply Kd.R_drewN | apply Kd.R_drew)); exact HO_7.out) (Kd.R_base ho0) hb); have n1_ := Aside0.mk (Kd.R_elder' (by (with_reducible repeat (first | apply Kd.R_alloc | apply Kd.R_drewN | apply Kd.R_drew)); exact HO_8.out) (Kd.R_base ho0) hb); have n2_ := Aside0.mk (Kd.R_elder' (by (with_reducible repeat (first | apply Kd.R_alloc | apply Kd.R_drewN | apply Kd.R_drew)); exact HO448.out) (Kd.R_base ho0) hb); have n3_ := Aside0.mk (Kd.R_lower (Kd.R_new' (Kd.R_new' (Kd.R_new' ho0 (Kd.R_lt (by (with_reducible repeat (first | apply Kd.R_alloc | apply Kd.R_drewN | apply Kd.R_drew)); exact HO_7.out))) (Kd.R_lt (by (with_reducible repeat (first | apply Kd.R_alloc | apply Kd.R_drewN | apply Kd.R_drew)); exact HO_8.out))) (Kd.R_lt (by (with_reducible repeat (first | apply Kd.R_alloc | apply Kd.R_drewN | apply Kd.R_drew)); exact HO448.out))) (below_size (by repeat (first | (with_reducible first | exact HB.out | apply below_alloc | apply pw_below_drewN | apply below_drew1) | exact HB.out)))); have n4_ := Aside0.mk (below_step (by repeat (first | (with_reducible first | exact HB.out | apply below_alloc | apply pw_below_drewN | apply below_drew1) | exact HB.out)) hb); clear HO_7; clear HO_8; clear HO448; clear HB; have HO_7 := n0_; have HO_8 := n1_; have HO448 := n2_; have HO451 := n3_; have HB := n4_; clear n0_ n1_ n2_ n3_ n4_; (try clear hb); (try clear hb2); (try clear hk); (try clear hi); (try clear ho0); obtain ⟨Ao163, co163, eo163⟩ := Kd.R_slice HO_7.out; subst eo163; obtain ⟨Ao164, co164, eo164⟩ := Kd.R_slice HO_8.out; subst eo164) | ((with_reducible refine gate_callee (f := 19) rfl ?_); refine goesL_ (some 56) rfl rfl Try.func19 (by kernel_rfl) rfl #[.slice Ao163 t411.length co163, .slice Ao164 t414.length co164] rfl (by (try simp only [List.map_toArray, List.map_cons, List.map_nil]); first | done | rfl | (simp only [List.length_drop, List.length_take]; rfl)) ?_; (with_reducible refine (span_Union.calls kj13 _ _ t411 _ _ t414 t452 _ ?side1 ?side2 ?side3 ?side4 A72.out).mono ?_); (case side1 => repeat (first | exact (Kd.R_reads' HO_7.out).2.2 | (with_reducible refine Kd.C_alloc ?_ _) | (with_reducible refine Kd.C_drewN ?_ _) | (with_reducible refine Kd.C_drew ?_))); (case side2 => exact (Kd.R_reads' HO_7.out).2.1); (case side3 => repeat (first | exact (Kd.R_reads' HO_8.out).2.2 | (with_reducible refine Kd.C_alloc ?_ _) | (with_reducible refine Kd.C_drewN ?_ _) | (with_reducible refine Kd.C_drew ?_))); (case side4 => exact (Kd.R_reads' HO_8.out).2.1); rintro e w165 ⟨v453, rfl, ho0, hb⟩; refine ⟨_, rfl, ?_⟩; have n0_ := Aside0.mk (Kd.R_elder' (by (with_reducible repeat (first | apply Kd.R_alloc | apply Kd.R_drewN | apply Kd.R_drew)); exact HO_7.out) (Kd.R_base ho0) hb); have n1_ := Aside0.mk (Kd.R_elder' (by (with_reducible repeat (first | apply Kd.R_alloc | apply Kd.R_drewN | apply Kd.R_drew)); exact HO_8.out) (Kd.R_base ho0) hb); have n2_ := Aside0.mk (Kd.R_elder' (by (with_reducible repeat (first | apply Kd.R_alloc | apply Kd.R_drewN | apply Kd.R_drew)); exact HO448.out) (Kd.R_base ho0) hb); have n3_ := Aside0.mk (Kd.R_elder' (by (with_reducible repeat (first | apply Kd.R_alloc | apply Kd.R_drewN | apply Kd.R_drew)); exact HO451.out) (Kd.R_base ho0) hb); have n4_ := Aside0.mk (Kd.R_lower (Kd.R_new' (Kd.R_new' (Kd.R_new' (Kd.R_new' ho0 (Kd.R_lt (by (with_reducible repeat (first | apply Kd.R_alloc | apply Kd.R_drewN | apply Kd.R_drew)); exact HO_7.out))) (Kd.R_lt (by (with_reducible repeat (first | apply Kd.R_alloc | apply Kd.R_drewN | apply Kd.R_drew)); exact HO_8.out))) (Kd.R_lt (by (with_reducible repeat (first | apply Kd.R_alloc | apply Kd.R_drewN | apply Kd.R_drew)); exact HO448.out))) (Kd.R_lt (by (with_reducible repeat (first | apply Kd.R_alloc | apply Kd.R_drewN | apply Kd.R_drew)); exact HO451.out))) (below_size (by repeat (first | (with_reducible first | exact HB.out | apply below_alloc | apply pw_below_drewN | apply below_drew1) | exact HB.out)))); have n5_ := Aside0.mk (below_step (by repeat (first | (with_reducible first | exact HB.out | apply below_alloc | apply pw_below_drewN | apply below_drew1) | exact HB.out)) hb); clear HO_7; clear HO_8; clear HO448; clear HO451; clear HB; have HO_7 := n0_; have HO_8 := n1_; have HO448 := n2_; have HO451 := n3_; have HO454 := n4_; have HB := n5_; clear n0_ n1_ n2_ n3_ n4_ n5_; (try clear hb); (try clear hb2); (try clear hk); (try clear hi); (try clear ho0); obtain ⟨Ao166, co166, eo166⟩ := Kd.R_slice HO451.out; subst eo166))
         go_ret
         exact ⟨by first | rfl | (simp [errW_none, errW_some] <;> rfl) | (simp [*, errW_none, errW_some] <;> rfl), by repeat (first | (with_reducible first | exact HB.out | apply below_alloc | apply pw_below_drewN | apply below_drew1) | exact HB.out)⟩
 ·
  replace c5 := Bool.eq_false_iff.mpr c5
  subst c5
  have H1 : (some false) = some r := by rw [if_neg (show ¬ (false = true) by decide)] at H; exact H
  clear H
  have H := H1
  clear H1
  obtain rfl := Option.some.inj H
  go_enter Try.func7, Try.ntmps7
  go_wp2_with (first | ((with_reducible refine gate_callee (f := 8) rfl ?_); refine goesL_ (some 11) rfl rfl Try.func8 (by kernel_rfl) rfl #[] rfl (by (try simp only [List.map_toArray, List.map_cons, List.map_nil]); first | done | rfl | (simp only [List.length_drop, List.length_take]; rfl)) ?_; (with_reducible refine (q9z.calls k  false _ A4.out).mono ?_); rintro e w167 ⟨rfl, hb⟩; refine ⟨_, rfl, ?_⟩; have n0_ := Aside0.mk (below_step (by repeat (first | (with_reducible first | exact HB.out | apply below_alloc | apply pw_below_drewN | apply below_drew1) | exact HB.out)) hb); clear HB; have HB := n0_; clear n0_; (try clear hb); (try clear hb2); (try clear hk); (try clear hi)))
  go_ret
  exact ⟨by first | rfl | (simp [errW_none, errW_some] <;> rfl) | (simp [*, errW_none, errW_some] <;> rfl), by repeat (first | (with_reducible first | exact HB.out | apply below_alloc | apply pw_below_drewN | apply below_drew1) | exact HB.out)⟩

end Go.Proofs.Ytconaifcjnpabaa.P

namespace Go.Proofs.Ytconaifcjnpabaa.P
open Go.RowKit Go.Proofs.YtconaifcjnpabaaW.PrintWords Go.Proofs.YtconaifcjnpabaaW.PrintLast Go.Proofs.YtconaifcjnpabaaW.PrintMore Go.ChangeShapes Go.WideShapes
set_option linter.unusedVariables false
section
variable {H : Type} {enc : TypeId × Value → H} {P : Program} {w : World} {base : Nat} {spare : Nat → Bool} {held : Bool}
/-- Whatever reads as data of type T is a value of kind d. -/
def Opens (enc : TypeId × Value → H) (P : Program) (w : World) (base : Nat) (spare : Nat → Bool) (held : Bool) {α : Type} (d : Kd α) (T : TypeId) (good : α → Prop) : Prop :=
  ∀ fuel cs y, DataW.trod enc P w base spare held fuel T cs = some y → ∃ x, d.K w x cs ∧ good x
theorem opens_int {k : IntKind} {T : TypeId} (ht : P.underlying T = some (.int k)) : Opens enc P w base spare held (Kd.int k) T (fun n => (Lit.int k n).wf = true) := by
  intro fuel cs y h
  obtain ⟨n, rfl, _, hw⟩ := DataW.trod_int ht h
  exact ⟨n, rfl, hw⟩
theorem opens_string {T : TypeId} (ht : P.underlying T = some .string) : Opens enc P w base spare held Kd.string T (fun s => s.size ≤ maxLen) := by
  intro fuel cs y h
  obtain ⟨s, rfl, _, hw⟩ := DataW.trod_string ht h
  exact ⟨s, rfl, hw⟩
theorem opens_bool {T : TypeId} (ht : P.underlying T = some .bool) : Opens enc P w base spare held Kd.bool T (fun _ => True) := by
  intro fuel cs y h
  cases fuel with
  | zero => simp [DataW.trod] at h
  | succ n =>
    unfold DataW.trod at h
    rw [ht] at h
    split at h
    all_goals first | exact ⟨_, rfl, trivial⟩ | (exfalso; simp_all; done)
theorem pick_list {α : Type} {Q : Nat → α → Prop} : ∀ n : Nat, (∀ i, i < n → ∃ x, Q i x) → ∃ xs : List α, xs.length = n ∧ ∀ i x, xs[i]? = some x → Q i x
  | 0, _ => ⟨[], rfl, fun i x h => by simp at h⟩
  | n + 1, h => by
    obtain ⟨xs, hl, hx⟩ := pick_list n (fun i hi => h i (by omega))
    obtain ⟨x, hxn⟩ := h n (by omega)
    refine ⟨xs ++ [x], by simp [hl], fun i z hz => ?_⟩
    by_cases hi : i < n
    · rw [List.getElem?_append_left (by omega)] at hz
      exact hx i z hz
    · rw [List.getElem?_append_right (by omega)] at hz
      have hi0 : i - xs.length = 0 := by
        have := (List.getElem?_eq_some_iff.1 hz).1
        simp at this
        omega
      rw [hi0] at hz
      have : x = z := by simpa using hz
      subst this
      have : i = n := by omega
      subst this
      exact hxn
theorem opens_slice {α : Type} {d : Kd α} {T e : TypeId} {good : α → Prop} (ht : P.underlying T = some (.slice e)) (hce : P.cellsOf e = d.sz) (ho : Opens enc P w base spare held d e good) :
    Opens enc P w base spare held (Kd.slice e d) T (fun xs => ∀ x ∈ xs, good x) := by
  intro fuel cs y h
  rcases Go.Deep.open_slice ht h with ⟨rfl, _⟩ | ⟨a, len, cap, m, n, D, Pl, rfl, hb, hl, hm, hmm, _, hx⟩
  · exact ⟨[], ⟨none, 0, rfl, Nat.le_refl _, ⟨rfl, by simp, fun h => absurd h (by simp)⟩⟩, fun x hx => (List.not_mem_nil hx).elim⟩
  · have hlm : len ≤ m := by rw [hmm]; split <;> omega
    have each : ∀ i, i < len → ∃ q : α × List Value, w.cells? base (a.add (i * d.sz)) d.sz = some q.2 ∧ d.K w q.1 q.2 ∧ good q.1 := fun i hi => by
      obtain ⟨cs', h1, h2⟩ := hx i (by omega)
      obtain ⟨x, hk, hg⟩ := ho _ _ _ h2
      rw [hce] at h1
      exact ⟨(x, cs'), h1, hk, hg⟩
    obtain ⟨qs, hql, hq⟩ := pick_list len each
    refine ⟨qs.map (·.1), ⟨some a, cap, by simp [hql], by simp [hql]; omega, ?_⟩, ?_⟩
    · refine ⟨rfl, by simp only [List.length_map, hql]; unfold maxLen at hm; omega, fun _ => ⟨a, rfl, fun j p hp => ?_⟩⟩
      rw [List.getElem?_map] at hp
      obtain ⟨q, hqj, rfl⟩ := Option.map_eq_some_iff.1 hp
      obtain ⟨h1, h2, _⟩ := hq j q hqj
      obtain ⟨_, h4, h5⟩ := World.cells?_some h1
      refine ⟨q.2, h4, h2, fun i u hu => ?_⟩
      have hi : i < d.sz := by have := (List.getElem?_eq_some_iff.1 hu).1; omega
      have h6 := h5 i hi
      rw [add_add] at h6
      rw [h6, hu]
    · intro x hx'
      obtain ⟨q, hq', rfl⟩ := List.mem_map.1 hx'
      obtain ⟨i, hi⟩ := List.getElem?_of_mem hq'
      exact (hq i q hi).2.2
end
end Go.Proofs.Ytconaifcjnpabaa.P

namespace Go.Proofs.Ytconaifcjnpabaa.P
open Go.RowKit Go.Proofs.YtconaifcjnpabaaW.PrintWords Go.Proofs.YtconaifcjnpabaaW.PrintMore Go.ChangeShapes Go.WideShapes
set_option linter.unusedVariables false
def good33 (x : S33) : Prop := (Lit.int .u32 x.f0).wf = true ∧ (Lit.int .u32 x.f1).wf = true
theorem opens_T33 {H : Type} {enc : TypeId × Value → H} {w : World} {base : Nat} {spare : Nat → Bool} {held : Bool} : Opens enc Try.prog w base spare held k33 33 good33 := by
  intro fuel cs y h
  obtain ⟨xs, n, _, _, hlen, hxl, hf⟩ := DataW.trod_struct Try.underlying33 h
  have hcs : cs.length = 2 := hlen.trans (by kernel_rfl)
  have h0 := hf 0 _ rfl
  obtain ⟨y0, e0⟩ : ∃ y_, xs[0]? = some y_ := ⟨_, List.getElem?_eq_getElem (by rw [hxl]; decide)⟩
  rw [e0] at h0
  have q0 : DataW.trod enc Try.prog w base spare held n 29 ((cs.drop 0).take 1) = some y0 := (congrArg (fun z => DataW.trod enc Try.prog w base spare held n 29 ((cs.drop 0).take z)) (show 1 = Try.prog.cellsOf 29 from by kernel_rfl)).trans h0
  obtain ⟨x0, k0_, g0⟩ := (opens_int Try.underlying29) _ _ _ q0
  have h1 := hf 1 _ rfl
  obtain ⟨y1, e1⟩ : ∃ y_, xs[1]? = some y_ := ⟨_, List.getElem?_eq_getElem (by rw [hxl]; decide)⟩
  rw [e1] at h1
  have q1 : DataW.trod enc Try.prog w base spare held n 29 ((cs.drop 1).take 1) = some y1 := (congrArg (fun z => DataW.trod enc Try.prog w base spare held n 29 ((cs.drop 1).take z)) (show 1 = Try.prog.cellsOf 29 from by kernel_rfl)).trans h1
  obtain ⟨x1, k1_, g1⟩ := (opens_int Try.underlying29) _ _ _ q1
  have s0 : cs.drop 0 = (cs.drop 0).take 1 ++ cs.drop 1 := by have e_ := (List.take_append_drop 1 (cs.drop 0)).symm; rwa [List.drop_drop] at e_
  have s1 : cs.drop 1 = (cs.drop 1).take 1 := (List.take_of_length_le (by rw [List.length_drop, hcs]; decide)).symm
  exact ⟨⟨x0, x1⟩, ⟨(cs.drop 0).take 1, cs.drop 1, (show cs = _ from s0), k0_, (by rw [s1]; exact k1_)⟩, g0, g1⟩
end Go.Proofs.Ytconaifcjnpabaa.P

namespace Go.Proofs.Ytconaifcjnpabaa.P
open Go.RowKit Go.Proofs.YtconaifcjnpabaaW.PrintWords Go.Proofs.YtconaifcjnpabaaW.PrintMore
set_option linter.unusedVariables false
/-! Sets of numbers as spans, in plain Lean. -/

def InS (l : List S33) (n : Int) : Bool := l.any (inSpan n)
theorem inSpan_iff (n : Int) (s : S33) : inSpan n s = true ↔ s.f0 ≤ n ∧ n ≤ s.f1 := by simp [inSpan]
theorem InS_iff (l : List S33) (n : Int) : InS l n = true ↔ ∃ s ∈ l, s.f0 ≤ n ∧ n ≤ s.f1 := by
  unfold InS
  rw [List.any_eq_true]
  simp only [inSpan_iff]
theorem InS_nil (n : Int) : InS [] n = false := rfl
theorem InS_cons (s : S33) (l : List S33) (n : Int) : InS (s :: l) n = (inSpan n s || InS l n) := rfl
theorem InS_append (a b : List S33) (n : Int) : InS (a ++ b) n = (InS a n || InS b n) := by unfold InS; rw [List.any_append]
def Ok (s : S33) : Prop := 0 ≤ s.f0 ∧ s.f0 ≤ s.f1 ∧ s.f1 ≤ 4294967295
def Rng (l : List S33) : Prop := ∀ s ∈ l, 0 ≤ s.f0 ∧ s.f0 ≤ 4294967295 ∧ 0 ≤ s.f1 ∧ s.f1 ≤ 4294967295
/-- A set's one form. -/
def NF (l : List S33) : Prop := (∀ s ∈ l, Ok s) ∧ l.Pairwise (fun a b => a.f1 + 1 < b.f0)
theorem NF_nil : NF [] := ⟨fun _ h => (List.not_mem_nil h).elim, List.Pairwise.nil⟩
theorem NF_cons {s : S33} {l : List S33} : NF (s :: l) ↔ Ok s ∧ (∀ x ∈ l, s.f1 + 1 < x.f0) ∧ NF l := by
  unfold NF
  rw [List.pairwise_cons]
  constructor
  · rintro ⟨h1, h2, h3⟩
    exact ⟨h1 s List.mem_cons_self, h2, fun x hx => h1 x (List.mem_cons_of_mem _ hx), h3⟩
  · rintro ⟨h1, h2, h3, h4⟩
    refine ⟨fun x hx => ?_, h2, h4⟩
    rcases List.mem_cons.1 hx with rfl | hx
    · exact h1
    · exact h3 x hx
theorem NF_snoc {s : S33} {l : List S33} : NF (l ++ [s]) ↔ NF l ∧ Ok s ∧ ∀ x ∈ l, x.f1 + 1 < s.f0 := by
  unfold NF
  rw [List.pairwise_append]
  constructor
  · rintro ⟨h1, h2, h3, h4⟩
    exact ⟨⟨fun x hx => h1 x (List.mem_append_left _ hx), h2⟩, h1 s (List.mem_append_right _ List.mem_cons_self), fun x hx => h4 x hx s List.mem_cons_self⟩
  · rintro ⟨⟨h1, h2⟩, h3, h4⟩
    refine ⟨fun x hx => ?_, h2, List.pairwise_singleton _ _, fun a ha b hb => ?_⟩
    · rcases List.mem_append.1 hx with hx | hx
      · exact h1 x hx
      · rw [List.mem_singleton.1 hx]; exact h3
    · rw [List.mem_singleton.1 hb]; exact h4 a ha
theorem NF_Rng {l : List S33} (h : NF l) : Rng l := fun s hs => by
  have h1 : Ok s := h.1 s hs
  unfold Ok at h1
  omega

theorem nf_head {x y : S33} {a b : List S33} (ha : NF (x :: a)) (hb : NF (y :: b)) (h : ∀ n, InS (x :: a) n = InS (y :: b) n) : x.f0 ≥ y.f0 := by
  obtain ⟨hx, hxa, ha'⟩ := NF_cons.1 ha
  obtain ⟨hy, hyb, hb'⟩ := NF_cons.1 hb
  have h1 : InS (x :: a) x.f0 = true := (InS_iff _ _).2 ⟨x, List.mem_cons_self, Int.le_refl _, hx.2.1⟩
  rw [h] at h1
  obtain ⟨s, hs, hs0, hs1⟩ := (InS_iff _ _).1 h1
  rcases List.mem_cons.1 hs with rfl | hs
  · exact hs0
  · have h2 := hyb s hs
    unfold Ok at hy
    omega
theorem nf_tail {x : S33} {y : S33} {a b : List S33} (ha : NF (x :: a)) (hb : NF (y :: b)) (h : ∀ n, InS (x :: a) n = InS (y :: b) n) (h0 : x.f0 = y.f0) : ¬ x.f1 < y.f1 := by
  intro hlt
  obtain ⟨hx, hxa, ha'⟩ := NF_cons.1 ha
  unfold Ok at hx
  have h1 : InS (y :: b) (x.f1 + 1) = true := (InS_iff _ _).2 ⟨y, List.mem_cons_self, by omega, by omega⟩
  rw [← h] at h1
  obtain ⟨s, hs, hs0, hs1⟩ := (InS_iff _ _).1 h1
  rcases List.mem_cons.1 hs with rfl | hs
  · omega
  · have h2 := hxa s hs
    omega
theorem nf_ext : ∀ {a b : List S33}, NF a → NF b → (∀ n, InS a n = InS b n) → a = b
  | [], [], _, _, _ => rfl
  | [], y :: b, _, hb, h => by
    obtain ⟨hy, _, _⟩ := NF_cons.1 hb
    have h1 : InS (y :: b) y.f0 = true := (InS_iff _ _).2 ⟨y, List.mem_cons_self, Int.le_refl _, hy.2.1⟩
    rw [← h] at h1
    exact absurd h1 (by simp [InS])
  | x :: a, [], ha, _, h => by
    obtain ⟨hx, _, _⟩ := NF_cons.1 ha
    have h1 : InS (x :: a) x.f0 = true := (InS_iff _ _).2 ⟨x, List.mem_cons_self, Int.le_refl _, hx.2.1⟩
    rw [h] at h1
    exact absurd h1 (by simp [InS])
  | x :: a, y :: b, ha, hb, h => by
    have h1 := nf_head ha hb h
    have h2 := nf_head hb ha (fun n => (h n).symm)
    have e0 : x.f0 = y.f0 := by omega
    have h3 := nf_tail ha hb h e0
    have h4 := nf_tail hb ha (fun n => (h n).symm) e0.symm
    have e1 : x.f1 = y.f1 := by omega
    have exy : x = y := by cases x; cases y; simp_all
    subst exy
    obtain ⟨hx, hxa, ha'⟩ := NF_cons.1 ha
    obtain ⟨_, hxb, hb'⟩ := NF_cons.1 hb
    unfold Ok at hx
    have ht : a = b := nf_ext ha' hb' (fun n => by
      have hn := h n
      rw [InS_cons, InS_cons] at hn
      by_cases hin : inSpan n x = true
      · rw [inSpan_iff] at hin
        have q : ∀ l : List S33, (∀ z ∈ l, x.f1 + 1 < z.f0) → InS l n = false := fun l hl => by
          cases hq : InS l n with
          | false => rfl
          | true =>
            obtain ⟨s, hs, hs0, _⟩ := (InS_iff _ _).1 hq
            have := hl s hs
            omega
        rw [q a hxa, q b hxb]
      · rw [Bool.not_eq_true] at hin
        simpa [hin] using hn)
    rw [ht]

/-! ### Norm -/
def mergeStep (out : List S33) (s : S33) : List S33 :=
  match out.getLast? with
  | none => [s]
  | some x => if x.f1 = 4294967295 ∨ s.f0 ≤ x.f1 + 1 then out.dropLast ++ [⟨x.f0, mx x.f1 s.f1⟩] else out ++ [s]
def mergeAll : List S33 → List S33 → List S33
  | out, [] => out
  | out, s :: r => mergeAll (mergeStep out s) r
theorem mergeStep_nil (s : S33) : mergeStep [] s = [s] := rfl
theorem mergeStep_snoc (p : List S33) (x s : S33) : mergeStep (p ++ [x]) s = if x.f1 = 4294967295 ∨ s.f0 ≤ x.f1 + 1 then p ++ [⟨x.f0, mx x.f1 s.f1⟩] else (p ++ [x]) ++ [s] := by
  unfold mergeStep
  simp
theorem mergeStep_nf {out : List S33} {s : S33} (ho : NF out) (hs : Ok s) (hle : ∀ x ∈ out, x.f0 ≤ s.f0) :
    NF (mergeStep out s) ∧ (∀ n, InS (mergeStep out s) n = (InS out n || inSpan n s)) ∧ ∀ x ∈ mergeStep out s, x.f0 ≤ s.f0 := by
  rcases List.eq_nil_or_concat out with rfl | ⟨p, x, rfl⟩
  · rw [mergeStep_nil]
    refine ⟨NF_cons.2 ⟨hs, fun _ h => (List.not_mem_nil h).elim, NF_nil⟩, fun n => by simp [InS], fun x hx => by rw [List.mem_singleton.1 hx]; exact Int.le_refl _⟩
  · simp only [List.concat_eq_append] at *
    rw [mergeStep_snoc]
    obtain ⟨hp, hx, hpx⟩ := NF_snoc.1 ho
    have hxs := hle x (by simp)
    have hx' := hx
    have hs' := hs
    unfold Ok at hx' hs'
    by_cases hc : x.f1 = 4294967295 ∨ s.f0 ≤ x.f1 + 1
    · rw [if_pos hc]
      have hm : mx x.f1 s.f1 = x.f1 ∧ s.f1 ≤ x.f1 ∨ mx x.f1 s.f1 = s.f1 ∧ x.f1 < s.f1 := by unfold mx; split <;> omega
      refine ⟨NF_snoc.2 ⟨hp, by show Ok (S33.mk x.f0 (mx x.f1 s.f1)); unfold Ok; rcases hm with hm | hm <;> simp only [hm.1] <;> omega, hpx⟩, fun n => ?_, fun z hz => ?_⟩
      · rw [InS_append, InS_append, Bool.or_assoc]
        congr 1
        simp only [InS, List.any_cons, List.any_nil, Bool.or_false]
        rw [Bool.eq_iff_iff, Bool.or_eq_true, inSpan_iff, inSpan_iff, inSpan_iff]
        rcases hm with hm | hm <;> simp only [hm.1] <;> omega
      · rcases List.mem_append.1 hz with hz | hz
        · exact hle z (List.mem_append_left _ hz)
        · rw [List.mem_singleton.1 hz]; exact hxs
    · rw [if_neg hc]
      rw [not_or] at hc
      refine ⟨NF_snoc.2 ⟨ho, hs, fun z hz => ?_⟩, fun n => by rw [InS_append]; simp [InS], fun z hz => ?_⟩
      · rcases List.mem_append.1 hz with hz | hz
        · have h1 := hpx z hz
          have h2 := hp.1 z hz
          unfold Ok at h2
          omega
        · rw [List.mem_singleton.1 hz]; omega
      · rcases List.mem_append.1 hz with hz | hz
        · exact hle z hz
        · rw [List.mem_singleton.1 hz]; exact Int.le_refl _
theorem mergeAll_nf : ∀ (t out : List S33), NF out → (∀ s ∈ t, Ok s) → t.Pairwise (fun a b => a.f0 ≤ b.f0) → (∀ x ∈ out, ∀ s ∈ t, x.f0 ≤ s.f0) →
    NF (mergeAll out t) ∧ ∀ n, InS (mergeAll out t) n = (InS out n || InS t n)
  | [], out, ho, _, _, _ => ⟨ho, fun n => by simp [mergeAll, InS]⟩
  | s :: r, out, ho, ht, hp, hle => by
    rw [List.pairwise_cons] at hp
    obtain ⟨h1, h2, h3⟩ := mergeStep_nf ho (ht s List.mem_cons_self) (fun x hx => hle x hx s List.mem_cons_self)
    obtain ⟨h4, h5⟩ := mergeAll_nf r (mergeStep out s) h1 (fun x hx => ht x (List.mem_cons_of_mem _ hx)) hp.2 (fun x hx y hy => Int.le_trans (h3 x hx) (hp.1 y hy))
    refine ⟨h4, fun n => ?_⟩
    rw [mergeAll, h5, h2, InS_cons, Bool.or_assoc]
/-- A set's one form, in plain Lean. -/
def norm (l : List S33) : List S33 := mergeAll [] ((l.filter (fun s => decide (s.f0 ≤ s.f1))).mergeSort (fun a b => decide (a.f0 ≤ b.f0)))

/-! ### Not -/
def notL : Int → List S33 → List S33
  | f, [] => [⟨f, 4294967295⟩]
  | f, s :: r => (if s.f0 > f then [⟨f, s.f0 - 1⟩] else []) ++ (if s.f1 = 4294967295 then [] else notL (s.f1 + 1) r)
theorem notL_nf : ∀ (l : List S33) (f : Int), 0 ≤ f → f ≤ 4294967295 → NF l → (∀ s ∈ l, f ≤ s.f0) → NF (notL f l) ∧ (∀ x ∈ notL f l, f ≤ x.f0) ∧ ∀ n, InS (notL f l) n = (decide (f ≤ n) && decide (n ≤ 4294967295) && !InS l n)
  | [], f, h0, h1, _, _ => by
    refine ⟨NF_cons.2 ⟨⟨h0, h1, Int.le_refl _⟩, fun _ h => (List.not_mem_nil h).elim, NF_nil⟩, fun x hx => by rw [List.mem_singleton.1 hx]; exact Int.le_refl _, fun n => by simp [notL, InS, inSpan]⟩
  | s :: r, f, h0, h1, hl, hf => by
    obtain ⟨hs, hsr, hr⟩ := NF_cons.1 hl
    have hfs := hf s List.mem_cons_self
    unfold Ok at hs
    by_cases hM : s.f1 = 4294967295
    · have hrn : r = [] := by
        cases r with
        | nil => rfl
        | cons z r =>
          have h2 := hsr z List.mem_cons_self
          have h3 := (NF_cons.1 hr).1
          unfold Ok at h3
          omega
      subst hrn
      simp only [notL, if_pos hM, List.append_nil]
      by_cases hg : s.f0 > f
      · rw [if_pos hg]
        refine ⟨NF_cons.2 ⟨⟨h0, by show f ≤ s.f0 - 1; omega, by show s.f0 - 1 ≤ 4294967295; omega⟩, fun _ h => (List.not_mem_nil h).elim, NF_nil⟩, fun x hx => by rw [List.mem_singleton.1 hx]; exact Int.le_refl _, fun n => ?_⟩
        simp only [InS, List.any_cons, List.any_nil, Bool.or_false]
        rw [Bool.eq_iff_iff]
        simp only [inSpan, Bool.and_eq_true, decide_eq_true_eq, Bool.not_eq_true', Bool.and_eq_false_iff, decide_eq_false_iff_not]
        omega
      · rw [if_neg hg]
        refine ⟨NF_nil, fun _ h => (List.not_mem_nil h).elim, fun n => ?_⟩
        simp only [InS, List.any_cons, List.any_nil, Bool.or_false]
        symm
        rw [Bool.eq_false_iff]
        simp only [ne_eq, inSpan, Bool.and_eq_true, decide_eq_true_eq, Bool.not_eq_true', Bool.and_eq_false_iff, decide_eq_false_iff_not]
        omega
    · obtain ⟨h2, h3, h4⟩ := notL_nf r (s.f1 + 1) (by omega) (by omega) hr (fun z hz => by have := hsr z hz; omega)
      simp only [notL, if_neg hM]
      have hin : ∀ n, InS r n = true → s.f1 + 1 < n := fun n hn => by
        obtain ⟨z, hz, hz0, _⟩ := (InS_iff _ _).1 hn
        have := hsr z hz
        omega
      have key : ∀ n, (decide (f ≤ n) && decide (n ≤ 4294967295) && !InS (s :: r) n) = ((decide (f ≤ n) && decide (n < s.f0)) || (decide (s.f1 + 1 ≤ n) && decide (n ≤ 4294967295) && !InS r n)) := fun n => by
        rw [InS_cons]
        have h5 := hin n
        cases hq : InS r n with
        | true =>
          have := h5 hq
          simp [inSpan]
          omega
        | false =>
          rw [Bool.eq_iff_iff]
          simp only [inSpan, Bool.or_false, Bool.not_false, Bool.and_true, Bool.or_eq_true, Bool.and_eq_true, decide_eq_true_eq, Bool.not_eq_true', Bool.and_eq_false_iff, decide_eq_false_iff_not]
          omega
      by_cases hg : s.f0 > f
      · rw [if_pos hg, List.singleton_append]
        refine ⟨NF_cons.2 ⟨⟨h0, by show f ≤ s.f0 - 1; omega, by show s.f0 - 1 ≤ 4294967295; omega⟩, fun x hx => by have := h3 x hx; show s.f0 - 1 + 1 < x.f0; omega, h2⟩, fun x hx => ?_, fun n => ?_⟩
        · rcases List.mem_cons.1 hx with rfl | hx
          · exact Int.le_refl _
          · have := h3 x hx; omega
        · rw [key, InS_cons, h4]
          congr 1
          rw [Bool.eq_iff_iff, inSpan_iff, Bool.and_eq_true, decide_eq_true_eq, decide_eq_true_eq]
          show f ≤ n ∧ n ≤ s.f0 - 1 ↔ _
          omega
      · rw [if_neg hg, List.nil_append]
        refine ⟨h2, fun x hx => by have := h3 x hx; omega, fun n => ?_⟩
        rw [key, h4]
        have : (decide (f ≤ n) && decide (n < s.f0)) = false := by
          rw [Bool.eq_false_iff]
          simp only [ne_eq, Bool.and_eq_true, decide_eq_true_eq]
          omega
        rw [this, Bool.false_or]
end Go.Proofs.Ytconaifcjnpabaa.P

namespace Go.Proofs.Ytconaifcjnpabaa.P
open Go.RowKit Go.Proofs.YtconaifcjnpabaaW.PrintWords Go.Proofs.YtconaifcjnpabaaW.PrintMore
set_option linter.unusedVariables false
/-! Cuts, and sets by pieces. -/
def Rising (l : List Int) : Prop := l.Pairwise (· < ·)
def ins (n : Int) (l : List Int) : List Int :=
  match l.dropWhile (fun a => decide (a < n)) with
  | [] => l ++ [n]
  | a :: r => if a = n then l else l.takeWhile (fun a => decide (a < n)) ++ n :: (a :: r)
theorem ins_split (n : Int) : ∀ l : List Int, l = l.takeWhile (fun a => decide (a < n)) ++ l.dropWhile (fun a => decide (a < n)) := fun l => List.takeWhile_append_dropWhile.symm
theorem tw_lt (n : Int) (l : List Int) : ∀ x ∈ l.takeWhile (fun a => decide (a < n)), x < n := by
  induction l with
  | nil => intro x hx; simp at hx
  | cons a r ih =>
    intro x hx
    rw [List.takeWhile_cons] at hx
    split at hx
    · rename_i h
      rcases List.mem_cons.1 hx with rfl | hx
      · simpa using h
      · exact ih x hx
    · simp at hx
theorem dw_head (n : Int) (l : List Int) (a : Int) (r : List Int) (h : l.dropWhile (fun a => decide (a < n)) = a :: r) : n ≤ a := by
  induction l with
  | nil => simp at h
  | cons b t ih =>
    rw [List.dropWhile_cons] at h
    split at h
    · exact ih h
    · rename_i hb
      obtain ⟨rfl, rfl⟩ := List.cons.inj h
      have : ¬ b < n := by simpa using hb
      omega
theorem mem_ins (n : Int) (l : List Int) (x : Int) : x ∈ ins n l ↔ x = n ∨ x ∈ l := by
  unfold ins
  split
  · simp [or_comm]
  · rename_i a r h
    have hs := ins_split n l
    rw [h] at hs
    split
    · rename_i ha
      subst ha
      constructor
      · exact .inr
      · rintro (rfl | hx)
        · rw [hs]; simp
        · exact hx
    · generalize l.takeWhile (fun a => decide (a < n)) = p at hs
      subst hs
      simp only [List.mem_append, List.mem_cons]
      constructor
      · rintro (h1 | h1 | h1 | h1) <;> simp [h1]
      · rintro (h1 | h1 | h1 | h1) <;> simp [h1]
theorem rising_ins (n : Int) (l : List Int) (hl : Rising l) : Rising (ins n l) := by
  unfold ins
  have hs := ins_split n l
  have ht := tw_lt n l
  split
  · rename_i h
    rw [h, List.append_nil] at hs
    unfold Rising
    rw [List.pairwise_append]
    refine ⟨hl, List.pairwise_singleton _ _, fun a ha b hb => ?_⟩
    rw [List.mem_singleton.1 hb]
    exact ht a (hs ▸ ha)
  · rename_i a r h
    have ha := dw_head n l a r h
    rw [h] at hs
    split
    · exact hl
    · rename_i hne
      generalize l.takeWhile (fun a => decide (a < n)) = p at hs ht
      subst hs
      unfold Rising at hl ⊢
      rw [List.pairwise_append] at hl ⊢
      obtain ⟨h1, h2, h3⟩ := hl
      refine ⟨h1, ?_, fun x hx y hy => ?_⟩
      · rw [List.pairwise_cons]
        refine ⟨fun y hy => ?_, h2⟩
        rw [List.pairwise_cons] at h2
        rcases List.mem_cons.1 hy with rfl | hy
        · omega
        · have := h2.1 y hy; omega
      · rcases List.mem_cons.1 hy with rfl | hy
        · exact ht x hx
        · exact h3 x hx y hy
theorem length_ins (n : Int) (l : List Int) : (ins n l).length ≤ l.length + 1 := by
  unfold ins
  split
  · simp
  · rename_i a r h
    have hs := congrArg List.length (ins_split n l)
    rw [h] at hs
    split
    · omega
    · simp only [List.length_append, List.length_cons] at hs ⊢
      omega
/-- The cuts of one set, put to others. -/
def cutS : List Int → List S33 → List Int
  | b, [] => b
  | b, s :: r => if s.f0 > s.f1 then cutS b r else if s.f1 < 4294967295 then cutS (ins (s.f1 + 1) (ins s.f0 b)) r else cutS (ins s.f0 b) r
def cutL : List Int → List (List S33) → List Int
  | b, [] => b
  | b, l :: r => cutL (cutS b l) r
def IsCut (l : List S33) (x : Int) : Prop := ∃ s ∈ l, s.f0 ≤ s.f1 ∧ (x = s.f0 ∨ s.f1 < 4294967295 ∧ x = s.f1 + 1)
theorem IsCut_cons (s : S33) (l : List S33) (x : Int) : IsCut (s :: l) x ↔ (s.f0 ≤ s.f1 ∧ (x = s.f0 ∨ s.f1 < 4294967295 ∧ x = s.f1 + 1)) ∨ IsCut l x := by
  unfold IsCut
  constructor
  · rintro ⟨z, hz, h⟩
    rcases List.mem_cons.1 hz with rfl | hz
    · exact .inl h
    · exact .inr ⟨z, hz, h⟩
  · rintro (h | ⟨z, hz, h⟩)
    · exact ⟨s, List.mem_cons_self, h⟩
    · exact ⟨z, List.mem_cons_of_mem _ hz, h⟩
theorem cutS_spec : ∀ (l : List S33) (b : List Int), Rising b → Rising (cutS b l) ∧ (∀ x, x ∈ cutS b l ↔ x ∈ b ∨ IsCut l x) ∧ (cutS b l).length ≤ b.length + 2 * l.length
  | [], b, hb => ⟨hb, fun x => by simp [cutS, IsCut], by simp [cutS]⟩
  | s :: r, b, hb => by
    unfold cutS
    by_cases h1 : s.f0 > s.f1
    · rw [if_pos h1]
      obtain ⟨q1, q2, q3⟩ := cutS_spec r b hb
      refine ⟨q1, fun x => ?_, by simp only [List.length_cons]; omega⟩
      rw [q2, IsCut_cons]
      have : ¬ (s.f0 ≤ s.f1) := by omega
      simp [this]
    · rw [if_neg h1]
      have h1' : s.f0 ≤ s.f1 := by omega
      have l1 := length_ins s.f0 b
      by_cases h2 : s.f1 < 4294967295
      · rw [if_pos h2]
        have l2 := length_ins (s.f1 + 1) (ins s.f0 b)
        obtain ⟨q1, q2, q3⟩ := cutS_spec r _ (rising_ins (s.f1 + 1) _ (rising_ins s.f0 b hb))
        refine ⟨q1, fun x => ?_, by simp only [List.length_cons]; omega⟩
        rw [q2, IsCut_cons, mem_ins, mem_ins]
        constructor
        · rintro ((h | h | h) | h)
          · exact .inr (.inl ⟨h1', .inr ⟨h2, h⟩⟩)
          · exact .inr (.inl ⟨h1', .inl h⟩)
          · exact .inl h
          · exact .inr (.inr h)
        · rintro (h | ⟨_, h | ⟨_, h⟩⟩ | h)
          · exact .inl (.inr (.inr h))
          · exact .inl (.inr (.inl h))
          · exact .inl (.inl h)
          · exact .inr h
      · rw [if_neg h2]
        obtain ⟨q1, q2, q3⟩ := cutS_spec r _ (rising_ins s.f0 b hb)
        refine ⟨q1, fun x => ?_, by simp only [List.length_cons]; omega⟩
        rw [q2, IsCut_cons, mem_ins]
        constructor
        · rintro ((h | h) | h)
          · exact .inr (.inl ⟨h1', .inl h⟩)
          · exact .inl h
          · exact .inr (.inr h)
        · rintro (h | ⟨_, h | ⟨h, _⟩⟩ | h)
          · exact .inl (.inr h)
          · exact .inl (.inl h)
          · exact absurd h h2
          · exact .inr h
theorem cutL_spec : ∀ (L : List (List S33)) (b : List Int), Rising b → Rising (cutL b L) ∧ (∀ x, x ∈ cutL b L ↔ x ∈ b ∨ ∃ l ∈ L, IsCut l x)
  | [], b, hb => ⟨hb, fun x => by simp [cutL]⟩
  | l :: r, b, hb => by
    obtain ⟨p1, p2, _⟩ := cutS_spec l b hb
    obtain ⟨q1, q2⟩ := cutL_spec r _ p1
    refine ⟨q1, fun x => ?_⟩
    rw [cutL, q2, p2]
    constructor
    · rintro ((h | h) | ⟨z, hz, h⟩)
      · exact .inl h
      · exact .inr ⟨l, List.mem_cons_self, h⟩
      · exact .inr ⟨z, List.mem_cons_of_mem _ hz, h⟩
    · rintro (h | ⟨z, hz, h⟩)
      · exact .inl (.inl h)
      · rcases List.mem_cons.1 hz with rfl | hz
        · exact .inl (.inr h)
        · exact .inr ⟨z, hz, h⟩
/-- Between two cuts a set has all numbers or none. -/
theorem in_at_cut (l : List S33) (c x : Int) (hr : Rng l) (hcx : c ≤ x) (hxm : x ≤ 4294967295) (h : ∀ z, IsCut l z → z ≤ x → z ≤ c) : InS l x = InS l c := by
  rw [Bool.eq_iff_iff, InS_iff, InS_iff]
  constructor
  · rintro ⟨s, hs, h0, h1⟩
    have h2 := h s.f0 ⟨s, hs, by omega, .inl rfl⟩ h0
    exact ⟨s, hs, h2, by omega⟩
  · rintro ⟨s, hs, h0, h1⟩
    refine ⟨s, hs, by omega, ?_⟩
    by_cases h3 : x ≤ s.f1
    · exact h3
    · have h4 := h (s.f1 + 1) ⟨s, hs, by omega, .inr ⟨?_, rfl⟩⟩ (by omega)
      · omega
      · by_cases h5 : s.f1 < 4294967295
        · exact h5
        · omega
/-- Pieces: where each begins, and whether it is asked for. -/
def pieceIn : List (Int × Bool) → Int → Bool
  | [], _ => false
  | (n, f) :: r, x => if x < n then false else match r with
    | [] => f && decide (x ≤ 4294967295)
    | (m, g) :: r' => if x < m then f else pieceIn ((m, g) :: r') x
def endOf : List (Int × Bool) → Int
  | [] => 4294967295
  | (m, _) :: _ => m - 1
def setEnd (out : List S33) (e : Int) : List S33 := match out.getLast? with | none => [] | some x => out.dropLast ++ [⟨x.f0, e⟩]
def fromL : Bool → List S33 → List (Int × Bool) → List S33
  | _, out, [] => out
  | prev, out, (n, f) :: r => if f then (if prev then fromL true (setEnd out (endOf r)) r else fromL true (out ++ [⟨n, endOf r⟩]) r) else fromL false out r
theorem endOf_ge (n : Int) (r : List (Int × Bool)) (hn : n ≤ 4294967295) (h : ∀ q ∈ r, n < q.1) : n ≤ endOf r := by
  cases r with
  | nil => exact hn
  | cons q r => have := h q List.mem_cons_self; obtain ⟨m, g⟩ := q; show n ≤ m - 1; omega
theorem endOf_le (r : List (Int × Bool)) (h : ∀ q ∈ r, q.1 ≤ 4294967295) : endOf r ≤ 4294967295 := by
  cases r with
  | nil => exact Int.le_refl _
  | cons q r => have := h q List.mem_cons_self; obtain ⟨m, g⟩ := q; show m - 1 ≤ 4294967295; omega
theorem pieceIn_lt (m : Int) (g : Bool) (r : List (Int × Bool)) (y : Int) (h : y < m) : pieceIn ((m, g) :: r) y = false := by
  unfold pieceIn
  rw [if_pos h]
theorem pieceIn_cons (n : Int) (f : Bool) (r : List (Int × Bool)) (y : Int) (h : ∀ q ∈ r, n < q.1) : pieceIn ((n, f) :: r) y = ((f && decide (n ≤ y) && decide (y ≤ endOf r)) || pieceIn r y) := by
  cases r with
  | nil =>
    simp only [pieceIn, endOf, Bool.or_false]
    by_cases h1 : y < n
    · have : ¬ n ≤ y := by omega
      simp [h1, this]
    · have : n ≤ y := by omega
      simp [h1, this]
      try rfl
  | cons q r =>
    obtain ⟨m, g⟩ := q
    have hm : n < m := h (m, g) List.mem_cons_self
    have he : endOf ((m, g) :: r) = m - 1 := rfl
    rw [he, pieceIn]
    by_cases h1 : y < n
    · have h2 : ¬ n ≤ y := by omega
      rw [if_pos h1, pieceIn_lt m g r y (by omega)]
      simp [h2]
    · have h2 : n ≤ y := by omega
      rw [if_neg h1]
      by_cases h3 : y < m
      · have h4 : y ≤ m - 1 := by omega
        rw [if_pos h3, pieceIn_lt m g r y h3]
        simp [h2, h4]
      · have h4 : ¬ y ≤ m - 1 := by omega
        rw [if_neg h3]
        simp [h4]
theorem setEnd_snoc (p : List S33) (x : S33) (e : Int) : setEnd (p ++ [x]) e = p ++ [⟨x.f0, e⟩] := by unfold setEnd; simp
theorem fromL_spec : ∀ (ps : List (Int × Bool)) (prev : Bool) (out : List S33), ps.Pairwise (fun a b => a.1 < b.1) → (∀ q ∈ ps, 0 ≤ q.1 ∧ q.1 ≤ 4294967295) → NF out →
    (prev = true → ∃ p x, out = p ++ [x] ∧ ∀ n f r, ps = (n, f) :: r → x.f1 + 1 = n) → (prev = false → ∀ x ∈ out, ∀ n f r, ps = (n, f) :: r → x.f1 + 1 < n) →
    NF (fromL prev out ps) ∧ ∀ y, InS (fromL prev out ps) y = (InS out y || pieceIn ps y)
  | [], prev, out, _, _, ho, _, _ => ⟨ho, fun y => by simp [fromL, pieceIn]⟩
  | (n, f) :: r, prev, out, hp, hr, ho, h1, h2 => by
    rw [List.pairwise_cons] at hp
    have hn := hr (n, f) List.mem_cons_self
    have hrr : ∀ q ∈ r, 0 ≤ q.1 ∧ q.1 ≤ 4294967295 := fun q hq => hr q (List.mem_cons_of_mem _ hq)
    have he1 := endOf_ge n r hn.2 hp.1
    have he2 := endOf_le r (fun q hq => (hrr q hq).2)
    have hnext : ∀ m g r', r = (m, g) :: r' → endOf r + 1 = m := fun m g r' h => by subst h; show m - 1 + 1 = m; omega
    have hm : ∀ m g r', r = (m, g) :: r' → n < m := fun m g r' h => hp.1 (m, g) (h ▸ List.mem_cons_self)
    have hpc := fun y => pieceIn_cons n f r y hp.1
    generalize hE : endOf r = e at he1 he2 hnext hpc
    cases f with
    | true =>
      cases prev with
      | true =>
        obtain ⟨p, x, rfl, hx⟩ := h1 rfl
        have hx := hx n true r rfl
        obtain ⟨q1, q2, q3⟩ := NF_snoc.1 ho
        unfold Ok at q2
        simp only [fromL, if_true, hE]
        rw [setEnd_snoc]
        obtain ⟨k1, k2⟩ := fromL_spec r true (p ++ [⟨x.f0, e⟩]) hp.2 hrr (NF_snoc.2 ⟨q1, ⟨q2.1, by show x.f0 ≤ e; omega, he2⟩, q3⟩) (fun _ => ⟨p, _, rfl, hnext⟩) (fun h => by cases h)
        refine ⟨k1, fun y => ?_⟩
        rw [k2, hpc, InS_append, InS_append, ← Bool.or_assoc]
        congr 1
        rw [Bool.or_assoc]
        congr 1
        simp only [InS, List.any_cons, List.any_nil, Bool.or_false, inSpan, Bool.true_and]
        rw [Bool.eq_iff_iff]
        simp only [Bool.or_eq_true, Bool.and_eq_true, decide_eq_true_eq]
        omega
      | false =>
        have h2 := fun x hx => h2 rfl x hx n true r rfl
        have hf : fromL false out ((n, true) :: r) = fromL true (out ++ [⟨n, e⟩]) r := by rw [fromL, hE]; rfl
        rw [hf]
        obtain ⟨k1, k2⟩ := fromL_spec r true (out ++ [⟨n, e⟩]) hp.2 hrr (NF_snoc.2 ⟨ho, ⟨hn.1, he1, he2⟩, h2⟩) (fun _ => ⟨out, _, rfl, hnext⟩) (fun h => by cases h)
        refine ⟨k1, fun y => ?_⟩
        rw [k2, hpc, InS_append, ← Bool.or_assoc]
        congr 2
        simp [InS, inSpan]
    | false =>
      have hf : fromL prev out ((n, false) :: r) = fromL false out r := by rw [fromL]; rfl
      rw [hf]
      obtain ⟨k1, k2⟩ := fromL_spec r false out hp.2 hrr ho (fun h => by cases h) (fun _ x hx m g r' hr' => by
        have hmm := hm m g r' hr'
        cases prev with
        | true =>
          obtain ⟨p, z, rfl, hz⟩ := h1 rfl
          have hz := hz n false r rfl
          obtain ⟨q1, q2, q3⟩ := NF_snoc.1 ho
          unfold Ok at q2
          rcases List.mem_append.1 hx with hx | hx
          · have := q3 x hx; omega
          · rw [List.mem_singleton.1 hx]; omega
        | false => have := h2 rfl x hx n false r rfl; omega)
      refine ⟨k1, fun y => ?_⟩
      rw [k2, hpc]
      simp
theorem pieceIn_at (g : Int → Bool) : ∀ (b : List Int) (n x : Int), Rising (n :: b) → n ≤ x → x ≤ 4294967295 →
    ∃ c ∈ n :: b, c ≤ x ∧ (∀ z ∈ n :: b, z ≤ x → z ≤ c) ∧ pieceIn ((n :: b).map (fun n => (n, g n))) x = g c
  | [], n, x, _, h0, h1 => ⟨n, List.mem_cons_self, h0, fun z hz _ => by rw [List.mem_singleton.1 hz]; exact Int.le_refl _, by
      have : ¬ x < n := by omega
      simp [pieceIn, this, h1]⟩
  | m :: b, n, x, hb, h0, h1 => by
    unfold Rising at hb
    rw [List.pairwise_cons] at hb
    have hnm := hb.1 m List.mem_cons_self
    have hx : ¬ x < n := by omega
    by_cases hxm : x < m
    · refine ⟨n, List.mem_cons_self, h0, fun z hz hzx => ?_, by simp [pieceIn, hx, hxm]⟩
      rcases List.mem_cons.1 hz with rfl | hz
      · exact Int.le_refl _
      · rcases List.mem_cons.1 hz with rfl | hz
        · omega
        · have := (List.pairwise_cons.1 hb.2).1 z hz; omega
    · obtain ⟨c, hc, c1, c2, c3⟩ := pieceIn_at g b m x hb.2 (by omega) h1
      refine ⟨c, List.mem_cons_of_mem _ hc, c1, fun z hz hzx => ?_, ?_⟩
      · rcases List.mem_cons.1 hz with rfl | hz
        · have := hb.1 c hc; omega
        · exact c2 z hz hzx
      · rw [← c3]
        simp [pieceIn, hx, hxm]
theorem pieceIn_out (g : Int → Bool) (x : Int) : ∀ (b : List Int), (∀ z ∈ b, 0 ≤ z ∧ z ≤ 4294967295) → Rising b → (x < 0 ∨ 4294967295 < x) → pieceIn (b.map (fun n => (n, g n))) x = false
  | [], _, _, _ => rfl
  | n :: b, h, hb, hx => by
    unfold Rising at hb
    rw [List.pairwise_cons] at hb
    have hn := h n List.mem_cons_self
    have hq : ∀ q ∈ b.map (fun n => (n, g n)), n < q.1 := fun q hq => by
      obtain ⟨z, hz, rfl⟩ := List.mem_map.1 hq
      exact hb.1 z hz
    have hq2 : ∀ q ∈ b.map (fun n => (n, g n)), q.1 ≤ 4294967295 := fun q hq => by
      obtain ⟨z, hz, rfl⟩ := List.mem_map.1 hq
      exact (h z (List.mem_cons_of_mem _ hz)).2
    rw [List.map_cons, pieceIn_cons n (g n) _ x hq, pieceIn_out g x b (fun z hz => h z (List.mem_cons_of_mem _ hz)) hb.2 hx, Bool.or_false]
    have he := endOf_le _ hq2
    rcases hx with hx | hx
    · have : ¬ n ≤ x := by omega
      simp [this]
    · have : ¬ x ≤ endOf (b.map (fun n => (n, g n))) := by omega
      simp [this]
/-- What the document's Set gives: the set's one form, by what is in the two. -/
theorem setL_spec (op : Bool → Bool → Bool) (a c : List S33) (ha : Rng a) (hc : Rng c) :
    NF (fromL false [] ((cutL [0] [a, c]).map (fun n => (n, op (InS a n) (InS c n))))) ∧
    ∀ x, InS (fromL false [] ((cutL [0] [a, c]).map (fun n => (n, op (InS a n) (InS c n))))) x = (decide (0 ≤ x) && decide (x ≤ 4294967295) && op (InS a x) (InS c x)) := by
  obtain ⟨hr, hm⟩ := cutL_spec [a, c] [0] (List.pairwise_singleton _ _)
  have hm' : ∀ x, x ∈ cutL [0] [a, c] ↔ x = 0 ∨ IsCut a x ∨ IsCut c x := fun x => by rw [hm]; simp
  have hrng : ∀ x ∈ cutL [0] [a, c], 0 ≤ x ∧ x ≤ 4294967295 := fun x hx => by
    rcases (hm' x).1 hx with rfl | ⟨s, hs, h1, h2⟩ | ⟨s, hs, h1, h2⟩
    · omega
    · have := ha s hs; omega
    · have := hc s hs; omega
  have h0 : (0 : Int) ∈ cutL [0] [a, c] := (hm' 0).2 (.inl rfl)
  generalize cutL [0] [a, c] = b at hr hm' hrng h0
  obtain ⟨k1, k2⟩ := fromL_spec (b.map (fun n => (n, op (InS a n) (InS c n)))) false [] (by
      rw [List.pairwise_map]
      exact hr) (fun q hq => by
      obtain ⟨z, hz, rfl⟩ := List.mem_map.1 hq
      exact hrng z hz) NF_nil (fun h => by cases h) (fun _ x hx => (List.not_mem_nil hx).elim)
  refine ⟨k1, fun x => ?_⟩
  rw [k2, InS_nil, Bool.false_or]
  by_cases hx : 0 ≤ x ∧ x ≤ 4294967295
  · have hd : (decide (0 ≤ x) && decide (x ≤ 4294967295)) = true := by simp [hx.1, hx.2]
    rw [hd, Bool.true_and]
    cases b with
    | nil => simp at h0
    | cons n b =>
      have hn0 : n = 0 := by
        unfold Rising at hr
        rw [List.pairwise_cons] at hr
        rcases List.mem_cons.1 h0 with h | h
        · exact h.symm
        · have := hr.1 0 h
          have := hrng n List.mem_cons_self
          omega
      subst hn0
      obtain ⟨z, hz, z1, z2, z3⟩ := pieceIn_at (fun n => op (InS a n) (InS c n)) b 0 x hr hx.1 hx.2
      rw [z3, in_at_cut a z x ha z1 hx.2 (fun y hy hyx => z2 y ((hm' y).2 (.inr (.inl hy))) hyx), in_at_cut c z x hc z1 hx.2 (fun y hy hyx => z2 y ((hm' y).2 (.inr (.inr hy))) hyx)]
  · rw [pieceIn_out _ x b hrng hr (by omega)]
    by_cases h1 : 0 ≤ x
    · have : ¬ x ≤ 4294967295 := by omega
      simp [this]
    · simp [h1]
end Go.Proofs.Ytconaifcjnpabaa.P

namespace Go.Proofs.Ytconaifcjnpabaa.P
open Go.RowKit Go.Proofs.YtconaifcjnpabaaW.PrintWords Go.Proofs.YtconaifcjnpabaaW.PrintLast Go.Proofs.YtconaifcjnpabaaW.PrintMore
attribute [local go_sem] max2_int min2_int max_two min_two max_three min_three max_four min_four
set_option linter.unusedVariables false
set_option linter.unusedSimpArgs false

/-! ### dragomanref01_In: function 17 -/
def q12z.l0 : Nat → Int → List (S33) → Int → Int → Option (Bool)
 | 0, _, _, _, _ => none
 | k + 1, x1, x7, x8, x9 => if x9 < x8 then (if 0 ≤ x9 then (if x9 < (x7.length : Int) then (if ((rd_T33 x7 x9).f0) ≤ x1 then (if x1 ≤ ((rd_T33 x7 x9).f1) then (some true) else (q12z.l0 k x1 x7 x8 (wrap64 (x9 + 1)))) else (q12z.l0 k x1 x7 x8 (wrap64 (x9 + 1)))) else (none)) else (none)) else (some false)
def q12z.f (k : Nat) (l0 : List (S33)) (a1 : Int) : Option (Bool) := q12z.l0 k a1 l0 (l0.length : Int) 0
theorem q12z.mono_l : ∀ k, (∀ y0 y1 y2 y3, LeO (q12z.l0 k y0 y1 y2 y3) (q12z.l0 (k + 1) y0 y1 y2 y3))
 | 0 => fun _ _ _ _ r h => by simp [q12z.l0] at h
 | k + 1 => by
  have ih0 := q12z.mono_l k
  ·
   intro y0 y1 y2 y3
   unfold q12z.l0
   repeat' first
   | (with_reducible exact ih0 _ _ _ _)
   | (with_reducible exact LeO.refl _)
   | (with_reducible exact LeO.none _)
   | (with_reducible refine LeO.ite ?_ ?_)
   | (with_reducible refine LeO.bind ?_ (fun _ => ?_))
   | exact ih0 _ _ _ _
   | exact LeO.none _
   | refine LeO.ite ?_ ?_
   | refine LeO.bind ?_ (fun _ => ?_)
theorem q12z.mono : ∀ a0 a1 k, LeO (q12z.f k a0 a1) (q12z.f (k + 1) a0 a1) := by
 intro a0 a1 k
 have ih0 := q12z.mono_l k
 unfold q12z.f
 repeat' first
   | (with_reducible exact ih0 _ _ _ _)
   | (with_reducible exact LeO.refl _)
   | (with_reducible exact LeO.none _)
   | (with_reducible refine LeO.ite ?_ ?_)
   | (with_reducible refine LeO.bind ?_ (fun _ => ?_))
   | exact ih0 _ _ _ _
   | exact LeO.none _
   | refine LeO.ite ?_ ?_
   | refine LeO.bind ?_ (fun _ => ?_)
set_option maxHeartbeats 8000000 in
set_option maxRecDepth 100000 in
theorem q12z.calls (k : Nat) (A0 : Option Addr) (c0 : Nat) (l0 : List (S33)) (a1 : Int) (r : Bool) (w : World) (hr0 : Kd.C k33 w A0 l0.length l0) (hc0 : l0.length ≤ c0) (h : q12z.f k l0 a1 = some r) :
  Calls Try.prog 17 #[.slice A0 l0.length c0, .int .u32 a1] w fun e w' => e = .returned (.bool r) ∧ Below w.heap.size w w' := by
 have hu33 := Try.underlying33
 have HR0 := Aside0.mk hr0
 have HC0 := Aside0.mk hc0
 clear hr0 hc0
 have HB := Aside0.mk (Below.refl w.heap.size w)
 have H : (q12z.l0 k a1 l0 (l0.length : Int) 0) = some r := h
 clear h
 have H' := Aside0.mk H
 clear H
 go_enter Try.func17, Try.ntmps17
 go_wp2
 go_loopg [9] k (fun kq v9 w' => ∃ (x9_1 : Int), v9 = .int .i64 x9_1 ∧ Aside0 (q12z.l0 kq a1 l0 (l0.length : Int) x9_1 = some r) ∧ Aside0 (kq ≤ k) ∧ Aside0 (Below w.heap.size w w'))
 case atStart => exact ⟨(0), (by first | rfl | (simp; done) | (simp [*]; done)), H', ⟨Nat.le_refl _⟩, ⟨by repeat (first | (with_reducible first | exact HB.out | apply below_alloc | apply pw_below_drewN | apply below_drew1) | exact HB.out)⟩⟩
 case round =>
  clear H'
  try clear c1
  try clear p2
  obtain ⟨x9_1, rfl, HA, HK1, HB⟩ := hrel
  cases gk with
  | zero => exact absurd HA.out (by simp [q12z.l0])
  | succ k1 =>
   have H := HA.out
   clear HA
   simp only [q12z.l0] at H
   by_cases c3 : x9_1 < (l0.length : Int)
   ·
    rw [if_pos c3] at H
    have c3b0 : decide (x9_1 < (l0.length : Int)) = true := decide_eq_true c3
    clear c3
    by_cases c4 : 0 ≤ x9_1
    ·
     rw [if_pos c4] at H
     have c4b0 : decide (0 ≤ x9_1) = true := decide_eq_true c4
     clear c4
     by_cases c5 : x9_1 < (l0.length : Int)
     ·
      rw [if_pos c5] at H
      have c5b0 : decide (x9_1 < (l0.length : Int)) = true := decide_eq_true c5
      clear c5
      by_cases c6 : ((rd_T33 l0 x9_1).f0) ≤ a1
      ·
       rw [if_pos c6] at H
       have c6b0 : decide (((rd_T33 l0 x9_1).f0) ≤ a1) = true := decide_eq_true c6
       clear c6
       by_cases c7 : a1 ≤ ((rd_T33 l0 x9_1).f1)
       ·
        rw [if_pos c7] at H
        have c7b0 : decide (a1 ≤ ((rd_T33 l0 x9_1).f1)) = true := decide_eq_true c7
        clear c7
        obtain rfl := Option.some.inj H
        have p194 : 0 ≤ (x9_1 : Int) := of_decide_eq_true (by first | (with_reducible assumption) | assumption)
        have q194 : x9_1 < (l0.length : Int) := of_decide_eq_true (by first | (with_reducible assumption) | assumption)
        obtain ⟨ad194, e194, hx194_0, hx194_1⟩ := at_T33 HR0.out x9_1 p194 q194
        cases e194
        replace hx194_0 := (HB.out.cell (World.block_lt_of_cell? w _ hx194_0)).trans hx194_0
        replace hx194_1 := (HB.out.cell (World.block_lt_of_cell? w _ hx194_1)).trans hx194_1
        replace p194 := eq_true p194
        replace q194 := eq_true q194
        go_wp2_with (first | ((with_reducible refine gate_dst (N := 6) rfl ?_); refine box_event ?hg (N := 6) ?hd (cs := #[.int .u32 0, .int .u32 0]) (t := 33) ?hr ?_; (case hd => rfl); (case hg => rfl); (case hr => first | (go_simp; done) | (go_simp; rfl)); intro gb195 hg w8 hbox hb; have n0_ := Aside0.mk (below_step (by repeat (first | (with_reducible first | exact HB.out | apply below_alloc | apply pw_below_drewN | apply below_drew1) | exact HB.out)) hb); have n1_ := Aside0.mk (hbox); have n2_ := Aside0.mk ((by rw [hg]; exact (below_size (by repeat (first | (with_reducible first | exact HB.out | apply below_alloc | apply pw_below_drewN | apply below_drew1) | exact HB.out))) : w.heap.size ≤ gb195)); have n3_ := Aside0.mk ((by rw [hg]; exact (below_size (by repeat (first | (with_reducible first | exact HB.out | apply below_alloc | apply pw_below_drewN | apply below_drew1) | exact HB.out))) : w.heap.size ≤ gb195)); clear HB; have HB := n0_; have BK195 := n1_; have GW195 := n2_; have GE195 := n3_; clear n0_ n1_ n2_ n3_; clear hb hbox hg; have hcz9_0 : w8.cell? ⟨gb195, 0, none⟩ = some (.int .u32 0) := (blk_cell BK195.out 0).trans rfl; have hcz9_1 : w8.cell? ⟨gb195, 1, none⟩ = some (.int .u32 0) := (blk_cell BK195.out 1).trans rfl; have hfz9_0 := blk_frozen BK195.out 0; have hfz9_1 := blk_frozen BK195.out 1))
        go_ret
        exact ⟨by first | rfl | (simp [errW_none, errW_some] <;> rfl) | (simp [*, errW_none, errW_some] <;> rfl), by repeat (first | (with_reducible first | exact HB.out | apply below_alloc | apply pw_below_drewN | apply below_drew1 | refine below_set ?_ GE195.out) | exact HB.out)⟩
       ·
        rw [if_neg c7] at H
        have c7b0 : decide (a1 ≤ ((rd_T33 l0 x9_1).f1)) = false := decide_eq_false c7
        clear c7
        have H' := Aside0.mk H
        clear H
        have p194 : 0 ≤ (x9_1 : Int) := of_decide_eq_true (by first | (with_reducible assumption) | assumption)
        have q194 : x9_1 < (l0.length : Int) := of_decide_eq_true (by first | (with_reducible assumption) | assumption)
        obtain ⟨ad194, e194, hx194_0, hx194_1⟩ := at_T33 HR0.out x9_1 p194 q194
        cases e194
        replace hx194_0 := (HB.out.cell (World.block_lt_of_cell? w _ hx194_0)).trans hx194_0
        replace hx194_1 := (HB.out.cell (World.block_lt_of_cell? w _ hx194_1)).trans hx194_1
        replace p194 := eq_true p194
        replace q194 := eq_true q194
        go_wp2_with (first | ((with_reducible refine gate_dst (N := 6) rfl ?_); refine box_event ?hg (N := 6) ?hd (cs := #[.int .u32 0, .int .u32 0]) (t := 33) ?hr ?_; (case hd => rfl); (case hg => rfl); (case hr => first | (go_simp; done) | (go_simp; rfl)); intro gb195 hg w10 hbox hb; have n0_ := Aside0.mk (below_step (by repeat (first | (with_reducible first | exact HB.out | apply below_alloc | apply pw_below_drewN | apply below_drew1) | exact HB.out)) hb); have n1_ := Aside0.mk (hbox); have n2_ := Aside0.mk ((by rw [hg]; exact (below_size (by repeat (first | (with_reducible first | exact HB.out | apply below_alloc | apply pw_below_drewN | apply below_drew1) | exact HB.out))) : w.heap.size ≤ gb195)); have n3_ := Aside0.mk ((by rw [hg]; exact (below_size (by repeat (first | (with_reducible first | exact HB.out | apply below_alloc | apply pw_below_drewN | apply below_drew1) | exact HB.out))) : w.heap.size ≤ gb195)); clear HB; have HB := n0_; have BK195 := n1_; have GW195 := n2_; have GE195 := n3_; clear n0_ n1_ n2_ n3_; clear hb hbox hg; have hcz11_0 : w10.cell? ⟨gb195, 0, none⟩ = some (.int .u32 0) := (blk_cell BK195.out 0).trans rfl; have hcz11_1 : w10.cell? ⟨gb195, 1, none⟩ = some (.int .u32 0) := (blk_cell BK195.out 1).trans rfl; have hfz11_0 := blk_frozen BK195.out 0; have hfz11_1 := blk_frozen BK195.out 1))
        go_roundg k1
        case measure => have := HK1.out; omega
        case rel => exact ⟨(wrap64 (x9_1 + 1)), (by first | rfl | (simp; done) | (simp [*]; done)), H', ⟨by have := HK1.out; omega⟩, ⟨by repeat (first | (with_reducible first | exact HB.out | apply below_alloc | apply pw_below_drewN | apply below_drew1 | refine below_set ?_ GE195.out) | exact HB.out)⟩⟩
      ·
       rw [if_neg c6] at H
       have c6b0 : decide (((rd_T33 l0 x9_1).f0) ≤ a1) = false := decide_eq_false c6
       clear c6
       have H' := Aside0.mk H
       clear H
       have p194 : 0 ≤ (x9_1 : Int) := of_decide_eq_true (by first | (with_reducible assumption) | assumption)
       have q194 : x9_1 < (l0.length : Int) := of_decide_eq_true (by first | (with_reducible assumption) | assumption)
       obtain ⟨ad194, e194, hx194_0, hx194_1⟩ := at_T33 HR0.out x9_1 p194 q194
       cases e194
       replace hx194_0 := (HB.out.cell (World.block_lt_of_cell? w _ hx194_0)).trans hx194_0
       replace hx194_1 := (HB.out.cell (World.block_lt_of_cell? w _ hx194_1)).trans hx194_1
       replace p194 := eq_true p194
       replace q194 := eq_true q194
       go_wp2_with (first | ((with_reducible refine gate_dst (N := 6) rfl ?_); refine box_event ?hg (N := 6) ?hd (cs := #[.int .u32 0, .int .u32 0]) (t := 33) ?hr ?_; (case hd => rfl); (case hg => rfl); (case hr => first | (go_simp; done) | (go_simp; rfl)); intro gb195 hg w12 hbox hb; have n0_ := Aside0.mk (below_step (by repeat (first | (with_reducible first | exact HB.out | apply below_alloc | apply pw_below_drewN | apply below_drew1) | exact HB.out)) hb); have n1_ := Aside0.mk (hbox); have n2_ := Aside0.mk ((by rw [hg]; exact (below_size (by repeat (first | (with_reducible first | exact HB.out | apply below_alloc | apply pw_below_drewN | apply below_drew1) | exact HB.out))) : w.heap.size ≤ gb195)); have n3_ := Aside0.mk ((by rw [hg]; exact (below_size (by repeat (first | (with_reducible first | exact HB.out | apply below_alloc | apply pw_below_drewN | apply below_drew1) | exact HB.out))) : w.heap.size ≤ gb195)); clear HB; have HB := n0_; have BK195 := n1_; have GW195 := n2_; have GE195 := n3_; clear n0_ n1_ n2_ n3_; clear hb hbox hg; have hcz13_0 : w12.cell? ⟨gb195, 0, none⟩ = some (.int .u32 0) := (blk_cell BK195.out 0).trans rfl; have hcz13_1 : w12.cell? ⟨gb195, 1, none⟩ = some (.int .u32 0) := (blk_cell BK195.out 1).trans rfl; have hfz13_0 := blk_frozen BK195.out 0; have hfz13_1 := blk_frozen BK195.out 1))
       go_roundg k1
       case measure => have := HK1.out; omega
       case rel => exact ⟨(wrap64 (x9_1 + 1)), (by first | rfl | (simp; done) | (simp [*]; done)), H', ⟨by have := HK1.out; omega⟩, ⟨by repeat (first | (with_reducible first | exact HB.out | apply below_alloc | apply pw_below_drewN | apply below_drew1 | refine below_set ?_ GE195.out) | exact HB.out)⟩⟩
     ·
      rw [if_neg c5] at H
      exact absurd H (by simp)
    ·
     rw [if_neg c4] at H
     exact absurd H (by simp)
   ·
    rw [if_neg c3] at H
    have c3b0 : decide (x9_1 < (l0.length : Int)) = false := decide_eq_false c3
    clear c3
    obtain rfl := Option.some.inj H
    go_wp2
    go_ret
    exact ⟨by first | rfl | (simp [errW_none, errW_some] <;> rfl) | (simp [*, errW_none, errW_some] <;> rfl), by repeat (first | (with_reducible first | exact HB.out | apply below_alloc | apply pw_below_drewN | apply below_drew1) | exact HB.out)⟩

end Go.Proofs.Ytconaifcjnpabaa.P

namespace Go.Proofs.Ytconaifcjnpabaa.P
open Go.RowKit Go.Proofs.YtconaifcjnpabaaW.PrintWords Go.Proofs.YtconaifcjnpabaaW.PrintLast Go.Proofs.YtconaifcjnpabaaW.PrintMore
attribute [local go_sem] max2_int min2_int max_two min_two max_three min_three max_four min_four
set_option linter.unusedVariables false
set_option linter.unusedSimpArgs false

/-! ### dragomanref01_Copy: function 13 -/
def q13z.f (l0 : List (S33)) : Option ((List (S33))) := (some (([] : List (S33)) : List (S33))).bind fun y241 => (if y241.length + l0.length < 17592186044416 then (some (y241 ++ l0)) else (none))
set_option maxHeartbeats 8000000 in
set_option maxRecDepth 100000 in
theorem q13z.calls (A0 : Option Addr) (c0 : Nat) (l0 : List (S33)) (r : List (S33)) (w : World) (hr0 : Kd.C k33 w A0 l0.length l0) (hc0 : l0.length ≤ c0) (h : q13z.f l0 = some r) :
  Calls Try.prog 13 #[.slice A0 l0.length c0] w fun e w' => ∃ v0_ : Value, e = .returned (v0_) ∧ Kd.R k33 33 w' w.heap.size (fun _ => True) v0_ r ∧ Below w.heap.size w w' := by
 have HR0 := Aside0.mk hr0
 have HC0 := Aside0.mk hc0
 clear hr0 hc0
 have HB := Aside0.mk (Below.refl w.heap.size w)
 have H : ((some (([] : List (S33)) : List (S33))).bind fun y241 => (if y241.length + l0.length < 17592186044416 then (some (y241 ++ l0)) else (none))) = some r := h
 clear h
 obtain ⟨y241, hy241⟩ : ∃ y_ : List (S33), y_ = (([] : List (S33))) := ⟨_, rfl⟩
 replace H : (if y241.length + l0.length < 17592186044416 then (some (y241 ++ l0)) else (none)) = some r := by first | (rw [hy241]; with_reducible exact H) | (have H2_ := (Option.bind_some _ _).symm.trans H; rw [hy241]; with_reducible exact H2_) | (have H2_ := (Option.bind_some _ _).symm.trans H; with_reducible exact H2_) | with_reducible exact H | (rw [hy241]; exact H) | exact H
 have Ny241 := Aside0.mk hy241
 clear hy241
 by_cases c2 : y241.length + l0.length < 17592186044416
 ·
  rw [if_pos c2] at H
  have LMc2 := Aside0.mk c2
  clear c2
  obtain ⟨y244, hy244⟩ : ∃ y_ : List (S33), y_ = (y241 ++ l0) := ⟨_, rfl⟩
  replace H : (some y244) = some r := by first | (rw [hy244]; with_reducible exact H) | (have H2_ := (Option.bind_some _ _).symm.trans H; rw [hy244]; with_reducible exact H2_) | (have H2_ := (Option.bind_some _ _).symm.trans H; with_reducible exact H2_) | with_reducible exact H | (rw [hy244]; exact H) | exact H
  have Ny244 := Aside0.mk hy244
  clear hy244
  obtain rfl := Option.some.inj H
  go_enter Try.func13, Try.ntmps13
  go_wp2_with (first | ((with_reducible refine gate_dst (N := 3) rfl ?_); refine Kd.R_lit k33 _ 33 ?hg (N := 3) ?hd (xs := ([] : List (S33))) (inner := []) (ok := fun _ => True) (okp := fun _ => True) ?hr ?hp (fun _ hk => hk) trivial (Below.refl _ _) (Nat.le_refl _) (by simp) ?_; (case hd => rfl); (case hg => rfl); (case hr => first | (go_simp; done) | (go_simp; rfl)); (case hp => exact (Reps.none _ _)); intro v242 w3 ho4 hb hg_ hnew_; clear hg_ hnew_; (first | rw [← Ny241.out] at ho4 | (simp only [Int.reduceToNat] at ho4; rw [← Ny241.out] at ho4)); have n0_ := Aside0.mk (Kd.R_lower ho4 (below_size (by repeat (first | (with_reducible first | exact HB.out | apply below_alloc | apply pw_below_drewN | apply below_drew1) | exact HB.out)))); have n1_ := Aside0.mk (below_step (by repeat (first | (with_reducible first | exact HB.out | apply below_alloc | apply pw_below_drewN | apply below_drew1) | exact HB.out)) hb); clear HB; have HO243 := n0_; have HB := n1_; clear n0_ n1_; clear hb ho4) | ((with_reducible refine gate_builtin (b := .append) (xs := #[.tmp 3, .tmp 4]) rfl ?_); at_builtin; refine Kd.R_append_rows k33 (w0 := w) w.heap.size rfl (.tmp 3) (.tmp 4) 24 33 (.agg #[(.int .u32 0), (.int .u32 0)]) 8 rfl Try.underlying24 info33 rfl (by decide) (by omega) v242 y241 l0 _ _ _ (fun _ => True) (fun _ => False) rfl rfl ?aO ?aR (fun _ _ h => h) (fun _ h => h.elim) ?aF ?aB ?aS ?aL ?_; (case aR => repeat (first | exact (Kd.C_below HR0.out HB.out) | (with_reducible refine Kd.C_alloc ?_ _) | (with_reducible refine Kd.C_drewN ?_ _) | (with_reducible refine Kd.C_drew ?_))); (case aB => exact (by repeat (first | (with_reducible first | exact HB.out | apply below_alloc | apply pw_below_drewN | apply below_drew1) | exact HB.out))); (case aF => exact (fun _ _ => trivial)); (case aO => exact (by (with_reducible repeat (first | apply Kd.R_alloc | apply Kd.R_drewN | apply Kd.R_drew)); exact HO243.out)); (case aS => exact (below_size (by repeat (first | (with_reducible first | exact HB.out | apply below_alloc | apply pw_below_drewN | apply below_drew1) | exact HB.out)))); (case aL => have := LMc2.out; omega); intro v245 w5 ho hb hg hat; rw [← Ny244.out] at ho; have n0_ := Aside0.mk (hb); have n1_ := Aside0.mk (ho); clear HB; clear HO243; have HB := n0_; have HO246 := n1_; clear n0_ n1_; clear ho hb hg hat))
  go_ret
  exact ⟨_, by first | rfl | (simp [errW_none, errW_some] <;> rfl) | (simp [*, errW_none, errW_some] <;> rfl), by (with_reducible repeat (first | apply Kd.R_alloc | apply Kd.R_drewN | apply Kd.R_drew)); exact HO246.out, by repeat (first | (with_reducible first | exact HB.out | apply below_alloc | apply pw_below_drewN | apply below_drew1) | exact HB.out)⟩
 ·
  rw [if_neg c2] at H
  exact absurd H (by simp)

end Go.Proofs.Ytconaifcjnpabaa.P

namespace Go.Proofs.Ytconaifcjnpabaa.P
open Go.RowKit Go.Proofs.YtconaifcjnpabaaW.PrintWords Go.Proofs.YtconaifcjnpabaaW.PrintMore
set_option linter.unusedVariables false
set_option linter.unusedSimpArgs false
theorem wr (i : Int) (h0 : -9223372036854775808 ≤ i) (h1 : i ≤ 9223372036854775807) : wrap64 i = i := by unfold wrap64; omega
theorem wr1 (i : Nat) (h : i < 1000000000) : wrap64 ((i : Int) + 1) = ((i + 1 : Nat) : Int) := by rw [wr _ (by omega) (by omega)]; omega
theorem rdS (l : List S33) (i : Nat) (h : i < l.length) : rd_T33 l (i : Int) = l[i] := by
  unfold rd_T33
  rw [Int.toNat_natCast, List.getD_eq_getElem?_getD, List.getElem?_eq_getElem h]
  rfl
theorem rdI (l : List Int) (i : Nat) (h : i < l.length) : rd l (i : Int) = l[i] := by
  unfold rd
  rw [Int.toNat_natCast, List.getD_eq_getElem?_getD, List.getElem?_eq_getElem h]
  rfl
theorem S33_eta (s : S33) : (⟨s.f0, s.f1⟩ : S33) = s := rfl
def okB (s : S33) : Bool := decide (s.f0 ≤ s.f1)

theorem norm_l1 (t : List S33) (ht : t.length ≤ 1000000) (htr : Rng t) : ∀ (d i : Nat) (out : List S33), i + d = t.length → out.length + d ≤ 1000000 → (∀ s ∈ out, 0 ≤ s.f1 ∧ s.f1 ≤ 4294967295) →
    Ev (fun k => q1z.l1 k out t (t.length : Int) (i : Int)) (mergeAll out (t.drop i))
  | 0, i, out, hi, _, _ => by
    refine Ev.step (f := fun _ => some out) (fun k => ?_) ?_
    · simp only [q1z.l1]
      rw [if_neg (by omega)]
    · rw [List.drop_eq_nil_of_le (by omega)]
      exact Ev.now out
  | d + 1, i, out, hi, ho, hr => by
    have hil : i < t.length := by omega
    rw [List.drop_eq_getElem_cons hil]
    have hs := htr t[i] (List.getElem_mem hil)
    generalize hq : t[i] = s at hs
    have hrd : rd_T33 t (i : Int) = s := by rw [rdS t i hil, hq]
    have hlen : ∀ o : List S33, o.length ≤ out.length + 1 → o.length + d ≤ 1000000 := fun o h => by omega
    rw [mergeAll]
    rcases List.eq_nil_or_concat out with rfl | ⟨p, x, rfl⟩
    · rw [mergeStep_nil]
      refine Ev.step (fun k => ?_) (norm_l1 t ht htr d (i + 1) [s] (by omega) (by simp; omega) (fun z hz => by rw [List.mem_singleton.1 hz]; omega))
      simp only [q1z.l1]
      rw [if_pos (by omega), if_pos (by omega), if_pos (by omega), if_neg (by simp), if_pos (by simp), hrd, wr1 i (by omega)]
      rfl
    · simp only [List.concat_eq_append] at *
      have hx := hr x (by simp)
      have hpl : (p ++ [x]).length = p.length + 1 := by simp
      have hl1 : wrap64 (((p ++ [x]).length : Int) - 1) = (p.length : Int) := by
        rw [List.length_append, List.length_singleton, wr _ (by omega) (by omega)]; omega
      have hrx : rd_T33 (p ++ [x]) (p.length : Int) = x := by rw [rdS _ _ (by simp)]; simp
      have hset : ∀ y : S33, (p ++ [x]).set (p.length : Int).toNat y = p ++ [y] := fun y => by rw [Int.toNat_natCast]; simp
      have hlp : ((p ++ [x]).length : Int) > 0 := by rw [List.length_append, List.length_singleton]; omega
      have hlq : (p.length : Int) < ((p ++ [x]).length : Int) := by rw [List.length_append, List.length_singleton]; omega
      have hmx : 0 ≤ mx x.f1 s.f1 ∧ mx x.f1 s.f1 ≤ 4294967295 := by unfold mx; split <;> omega
      rw [mergeStep_snoc]
      by_cases hM : x.f1 = 4294967295
      · rw [if_pos (.inl hM)]
        refine Ev.step (fun k => ?_) (norm_l1 t ht htr d (i + 1) (p ++ [⟨x.f0, mx x.f1 s.f1⟩]) (by omega) (hlen _ (by simp)) (fun z hz => ?_))
        · simp only [q1z.l1]
          rw [if_pos (by omega), if_pos (by omega), if_pos (by omega), if_pos hlp, hl1, if_pos (by omega), if_pos hlq, hrx, if_pos hM, hset, hrd, wr1 i (by omega)]
        · rcases List.mem_append.1 hz with hz | hz
          · exact hr z (List.mem_append_left _ hz)
          · rw [List.mem_singleton.1 hz]; exact hmx
      · have hmod : (x.f1 + 1) % 4294967296 = x.f1 + 1 := by omega
        by_cases hc : s.f0 ≤ x.f1 + 1
        · rw [if_pos (.inr hc)]
          refine Ev.step (fun k => ?_) (norm_l1 t ht htr d (i + 1) (p ++ [⟨x.f0, mx x.f1 s.f1⟩]) (by omega) (hlen _ (by simp)) (fun z hz => ?_))
          · simp only [q1z.l1]
            rw [if_pos (by omega), if_pos (by omega), if_pos (by omega), if_pos hlp, hl1, if_pos (by omega), if_pos hlq, hrx, if_neg hM, hmod, hrd, if_pos hc, hset, wr1 i (by omega)]
          · rcases List.mem_append.1 hz with hz | hz
            · exact hr z (List.mem_append_left _ hz)
            · rw [List.mem_singleton.1 hz]; exact hmx
        · rw [if_neg (by rw [not_or]; exact ⟨hM, hc⟩)]
          refine Ev.step (fun k => ?_) (norm_l1 t ht htr d (i + 1) ((p ++ [x]) ++ [s]) (by omega) (hlen _ (by simp)) (fun z hz => ?_))
          · simp only [q1z.l1]
            rw [if_pos (by omega), if_pos (by omega), if_pos (by omega), if_pos hlp, hl1, if_pos (by omega), if_pos hlq, hrx, if_neg hM, hmod, hrd, if_neg hc, if_pos (by have := hlen (p ++ [x]) (by omega); omega), wr1 i (by omega)]
          · rcases List.mem_append.1 hz with hz | hz
            · exact hr z hz
            · rw [List.mem_singleton.1 hz]; omega

theorem norm_l0 (l : List S33) (hl : l.length ≤ 1000000) (r : List S33) : ∀ (d i : Nat) (acc : List S33), i + d = l.length → acc.length ≤ i →
    Ev (fun k => (SortFunc_Span.f (acc ++ (l.drop i).filter okB)).bind fun t => q1z.l1 k [] t ((acc ++ (l.drop i).filter okB).length : Int) 0) r →
    Ev (fun k => q1z.l0 k acc l (l.length : Int) (i : Int)) r
  | 0, i, acc, hi, _, h => by
    refine Ev.step (fun k => ?_) h
    simp only [q1z.l0]
    rw [if_neg (by omega), List.drop_eq_nil_of_le (by omega), List.filter_nil, List.append_nil]
  | d + 1, i, acc, hi, ha, h => by
    have hil : i < l.length := by omega
    rw [List.drop_eq_getElem_cons hil] at h
    have hrd : rd_T33 l (i : Int) = l[i] := rdS l i hil
    by_cases hc : l[i].f0 ≤ l[i].f1
    · rw [List.filter_cons_of_pos (by simpa [okB] using hc)] at h
      refine Ev.step (fun k => ?_) (norm_l0 l hl r d (i + 1) (acc ++ [l[i]]) (by omega) (by simp; omega) (by rw [List.append_assoc, List.singleton_append]; exact h))
      simp only [q1z.l0]
      rw [if_pos (by omega), if_pos (by omega), if_pos (by omega), hrd, if_pos hc, if_pos (by omega), wr1 i (by omega)]
    · rw [List.filter_cons_of_neg (by simpa [okB] using hc)] at h
      refine Ev.step (fun k => ?_) (norm_l0 l hl r d (i + 1) acc (by omega) (by omega) h)
      simp only [q1z.l0]
      rw [if_pos (by omega), if_pos (by omega), if_pos (by omega), hrd, if_neg hc, wr1 i (by omega)]

theorem InS_perm {a b : List S33} (h : a.Perm b) (n : Int) : InS a n = InS b n := by
  rw [Bool.eq_iff_iff, InS_iff, InS_iff]
  exact ⟨fun ⟨s, hs, q⟩ => ⟨s, h.mem_iff.1 hs, q⟩, fun ⟨s, hs, q⟩ => ⟨s, h.mem_iff.2 hs, q⟩⟩
theorem InS_filter (l : List S33) (n : Int) : InS (l.filter okB) n = InS l n := by
  rw [Bool.eq_iff_iff, InS_iff, InS_iff]
  refine ⟨fun ⟨s, hs, q⟩ => ⟨s, (List.mem_filter.1 hs).1, q⟩, fun ⟨s, hs, q⟩ => ⟨s, List.mem_filter.2 ⟨hs, by simp [okB]; omega⟩, q⟩⟩
theorem mergeStep_length (out : List S33) (s : S33) : (mergeStep out s).length ≤ out.length + 1 := by
  rcases List.eq_nil_or_concat out with rfl | ⟨p, x, rfl⟩
  · simp [mergeStep]
  · rw [List.concat_eq_append, mergeStep_snoc]
    split <;> simp
theorem mergeAll_length : ∀ (t out : List S33), (mergeAll out t).length ≤ out.length + t.length
  | [], out => by simp [mergeAll]
  | s :: r, out => by
    have h1 := mergeAll_length r (mergeStep out s)
    have h2 := mergeStep_length out s
    rw [mergeAll, List.length_cons]
    omega

/-- span.Norm: the set's one form. -/
theorem norm_ev (l : List S33) (hl : l.length ≤ 1000000) (hr : Rng l) : ∃ r, Ev (fun k => q1z.f k l) r ∧ NF r ∧ (∀ n, InS r n = InS l n) ∧ r.length ≤ l.length := by
  have hfl : (l.filter okB).length ≤ l.length := List.length_filter_le _ _
  obtain ⟨t, ht, hp, hs⟩ := sortFunc_Span_sorts (l.filter okB) (by omega)
  have htl : t.length = (l.filter okB).length := hp.length_eq
  have hmem : ∀ s ∈ t, s ∈ l ∧ s.f0 ≤ s.f1 := fun s hs => by
    have := List.mem_filter.1 (hp.mem_iff.1 hs)
    exact ⟨this.1, by simpa [okB] using this.2⟩
  have hok : ∀ s ∈ t, Ok s := fun s hs => by
    have h1 := hmem s hs
    have h2 := hr s h1.1
    unfold Ok
    omega
  obtain ⟨h1, h2⟩ := mergeAll_nf t [] NF_nil hok hs (fun x hx => (List.not_mem_nil hx).elim)
  refine ⟨mergeAll [] t, ?_, h1, fun n => ?_, ?_⟩
  · have h3 := norm_l1 t (by omega) (fun s hs => hr s (hmem s hs).1) t.length 0 [] (by omega) (by simp; omega) (fun s hs => (List.not_mem_nil hs).elim)
    refine Ev.congr (fun k => rfl) (norm_l0 l hl _ l.length 0 [] (by omega) (Nat.zero_le _) ?_)
    simp only [List.nil_append, List.drop_zero, ht, Option.bind_some]
    rw [← htl]
    exact h3
  · rw [h2, InS_nil, Bool.false_or, InS_perm hp, InS_filter]
  · have := mergeAll_length t []
    simp only [List.length_nil] at this
    omega

theorem not_l0 (t : List S33) (ht : t.length ≤ 1000000) (hn : NF t) : ∀ (d i : Nat) (acc : List S33) (f : Int), i + d = t.length → acc.length ≤ i → 0 ≤ f → f ≤ 4294967295 → (∀ s ∈ t.drop i, f ≤ s.f0) →
    Ev (fun k => q4z.l0 k acc f t (t.length : Int) (i : Int)) (acc ++ notL f (t.drop i))
  | 0, i, acc, f, hi, ha, _, _, _ => by
    refine Ev.step (f := fun _ => some (acc ++ [(⟨f, 4294967295⟩ : S33)])) (fun k => ?_) ?_
    · simp only [q4z.l0]
      rw [if_neg (by omega), if_pos (by omega)]
    · rw [List.drop_eq_nil_of_le (by omega)]
      exact Ev.now _
  | d + 1, i, acc, f, hi, ha, hf0, hf1, hf => by
    have hil : i < t.length := by omega
    rw [List.drop_eq_getElem_cons hil] at hf ⊢
    have hs : Ok t[i] := hn.1 _ (List.getElem_mem hil)
    have hrd : rd_T33 t (i : Int) = t[i] := rdS t i hil
    have hfi := hf t[i] List.mem_cons_self
    have hgap : ∀ s ∈ t.drop (i + 1), t[i].f1 + 1 ≤ s.f0 := fun s hs => by
      have h1 := hn.2
      rw [← List.take_append_drop i t, List.pairwise_append] at h1
      have h2 := h1.2.1
      rw [List.drop_eq_getElem_cons hil, List.pairwise_cons] at h2
      have := h2.1 s hs
      omega
    generalize t[i] = s at hs hrd hfi hgap
    unfold Ok at hs
    by_cases hg : s.f0 > f
    · have hm1 : (s.f0 - 1) % 4294967296 = s.f0 - 1 := by omega
      by_cases hM : s.f1 = 4294967295
      · simp only [notL, if_pos hg, if_pos hM, List.append_nil]
        refine Ev.step (f := fun _ => some (acc ++ [(⟨f, s.f0 - 1⟩ : S33)])) (fun k => ?_) (Ev.now _)
        simp only [q4z.l0]
        rw [if_pos (by omega), if_pos (by omega), if_pos (by omega), hrd, if_pos hg, if_pos (by omega), Option.bind_some, if_pos hM, hm1]
      · have hm2 : (s.f1 + 1) % 4294967296 = s.f1 + 1 := by omega
        simp only [notL, if_pos hg, if_neg hM]
        rw [← List.append_assoc]
        refine Ev.step (fun k => ?_) (not_l0 t ht hn d (i + 1) (acc ++ [(⟨f, s.f0 - 1⟩ : S33)]) (s.f1 + 1) (by omega) (by simp; omega) (by omega) (by omega) hgap)
        simp only [q4z.l0]
        rw [if_pos (by omega), if_pos (by omega), if_pos (by omega), hrd, if_pos hg, if_pos (by omega), Option.bind_some, if_neg hM, hm1, hm2, wr1 i (by omega)]
    · by_cases hM : s.f1 = 4294967295
      · simp only [notL, if_neg hg, if_pos hM, List.append_nil, List.nil_append]
        refine Ev.step (f := fun _ => some acc) (fun k => ?_) (Ev.now _)
        simp only [q4z.l0]
        rw [if_pos (by omega), if_pos (by omega), if_pos (by omega), hrd, if_neg hg, if_pos hM]
      · have hm2 : (s.f1 + 1) % 4294967296 = s.f1 + 1 := by omega
        simp only [notL, if_neg hg, if_neg hM, List.nil_append]
        refine Ev.step (fun k => ?_) (not_l0 t ht hn d (i + 1) acc (s.f1 + 1) (by omega) (by omega) (by omega) (by omega) hgap)
        simp only [q4z.l0]
        rw [if_pos (by omega), if_pos (by omega), if_pos (by omega), hrd, if_neg hg, if_neg hM, hm2, wr1 i (by omega)]
theorem notL_length : ∀ (l : List S33) (f : Int), (notL f l).length ≤ l.length + 1
  | [], f => by simp [notL]
  | s :: r, f => by
    have := notL_length r (s.f1 + 1)
    simp only [notL, List.length_append, List.length_cons]
    split <;> split <;> simp <;> omega
/-- span.Not: what is in none. -/
theorem not_ev (l : List S33) (hl : l.length ≤ 1000000) (hr : Rng l) : ∃ r, Ev (fun k => q4z.f k l) r ∧ NF r ∧ (∀ n, InS r n = (decide (0 ≤ n) && decide (n ≤ 4294967295) && !InS l n)) ∧ r.length ≤ l.length + 1 := by
  obtain ⟨t, h1, h2, h3, h4⟩ := norm_ev l hl hr
  obtain ⟨h5, _, h6⟩ := notL_nf t 0 (Int.le_refl _) (by decide) h2 (fun s hs => (h2.1 s hs).1)
  refine ⟨notL 0 t, ?_, h5, fun n => by rw [h6, h3], Nat.le_trans (notL_length t 0) (by omega)⟩
  refine Ev.bind h1 (f := fun k t => q4z.l0 k [] 0 t (t.length : Int) 0) ?_
  exact not_l0 t (by omega) h2 t.length 0 [] 0 (by omega) (Nat.zero_le _) (Int.le_refl _) (by decide) (fun s hs => (h2.1 s (List.drop_subset _ _ hs)).1)

theorem refIn_l0 (n : Int) (l : List S33) (hl : l.length ≤ 1000000) : ∀ (d i : Nat), i + d = l.length → Ev (fun k => q12z.l0 k n l (l.length : Int) (i : Int)) (InS (l.drop i) n)
  | 0, i, hi => by
    refine Ev.step (f := fun _ => some false) (fun k => ?_) ?_
    · simp only [q12z.l0]
      rw [if_neg (by omega)]
    · rw [List.drop_eq_nil_of_le (by omega)]
      exact Ev.now _
  | d + 1, i, hi => by
    have hil : i < l.length := by omega
    rw [List.drop_eq_getElem_cons hil, InS_cons]
    have hrd : rd_T33 l (i : Int) = l[i] := rdS l i hil
    have ih := refIn_l0 n l hl d (i + 1) (by omega)
    by_cases h1 : l[i].f0 ≤ n
    · by_cases h2 : n ≤ l[i].f1
      · have e : (inSpan n l[i] || InS (l.drop (i + 1)) n) = true := by simp [inSpan, h1, h2]
        rw [e]
        refine Ev.step (f := fun _ => some true) (fun k => ?_) (Ev.now _)
        simp only [q12z.l0]
        rw [if_pos (by omega), if_pos (by omega), if_pos (by omega), hrd, if_pos h1, if_pos h2]
      · have e : (inSpan n l[i] || InS (l.drop (i + 1)) n) = InS (l.drop (i + 1)) n := by simp [inSpan, h2]
        rw [e]
        refine Ev.step (fun k => ?_) ih
        simp only [q12z.l0]
        rw [if_pos (by omega), if_pos (by omega), if_pos (by omega), hrd, if_pos h1, if_neg h2, wr1 i (by omega)]
    · have e : (inSpan n l[i] || InS (l.drop (i + 1)) n) = InS (l.drop (i + 1)) n := by simp [inSpan, h1]
      rw [e]
      refine Ev.step (fun k => ?_) ih
      simp only [q12z.l0]
      rw [if_pos (by omega), if_pos (by omega), if_pos (by omega), hrd, if_neg h1, wr1 i (by omega)]
theorem refIn_ev (l : List S33) (n : Int) (hl : l.length ≤ 1000000) : Ev (fun k => q12z.f k l n) (InS l n) := refIn_l0 n l hl l.length 0 (by omega)
theorem in_f (l : List S33) (n : Int) (hl : l.length ≤ 1000000) : span_In.f l n = some (InS l n) := if_pos (by omega)
theorem copy_f (l : List S33) (hl : l.length ≤ 1000000) : q13z.f l = some l := by
  unfold q13z.f
  rw [Option.bind_some, if_pos (by simp; omega), List.nil_append]
theorem same_l0 (a : List S33) (hl : a.length ≤ 1000000) : ∀ (d i : Nat), i + d = a.length → Ev (fun k => q2z.l0 k a a (a.length : Int) (i : Int)) true
  | 0, i, hi => by
    refine Ev.step (f := fun _ => some true) (fun k => ?_) (Ev.now _)
    simp only [q2z.l0]
    rw [if_neg (by omega)]
  | d + 1, i, hi => by
    refine Ev.step (fun k => ?_) (same_l0 a hl d (i + 1) (by omega))
    simp only [q2z.l0]
    rw [if_pos (by omega), if_pos (by omega), if_pos (by omega), if_pos (by omega), if_neg (by simp), wr1 i (by omega)]
theorem same_ev (a : List S33) (hl : a.length ≤ 1000000) : Ev (fun k => q2z.f k a a) true := by
  refine Ev.congr (fun k => ?_) (same_l0 a hl a.length 0 (by omega))
  unfold q2z.f
  rw [if_pos rfl]
  rfl
end Go.Proofs.Ytconaifcjnpabaa.P
