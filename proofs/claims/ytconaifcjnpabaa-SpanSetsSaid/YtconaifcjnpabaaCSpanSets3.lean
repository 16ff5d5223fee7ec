/-
  Proved: for every input the law SpanSets answers true, and each argument reads behind the call as it read before.
  Conditions: none beside the row's own.
-/
import Derived.Deep.Slices
import Derived.Lib.Hide
import Derived.Test.YtconaifcjnpabaaRows
import Derived.WalkKit
import Derived.ProofKit
import Derived.OpenShut
import Derived.ShutString
import Derived.ChangeOld
import Derived.Below
import Derived.SizedLaws
import Derived.Test.YtconaifcjnpabaaCSpanSets0
import Derived.Test.YtconaifcjnpabaaCSpanSets1
import Derived.Test.YtconaifcjnpabaaCSpanSets2
namespace Go.Proofs.Ytconaifcjnpabaa.P
open Go.RowKit Go.Proofs.YtconaifcjnpabaaW.PrintWords Go.Proofs.YtconaifcjnpabaaW.PrintLast Go.Proofs.YtconaifcjnpabaaW.PrintMore
attribute [local go_sem] max2_int min2_int max_two min_two max_three min_three max_four min_four
set_option linter.unusedVariables false
set_option linter.unusedSimpArgs false

/-! ### dragomanlaw01_SpanSets: function 6 -/
def q18z.j0 : Nat → List (S33) → List (S33) → Bool → Option (Bool)
 | 0, _, _, _ => none
 | k + 1, x0, x1, x14 => if x14 = true then (some true) else ((q3z.f x0).bind fun t379 => ((q3z.f x1).bind fun t382 => ((span_Union.f k t379 t382).bind fun t385 => ((q10z.f k 1 x0 x1).bind fun t388 => ((q2z.f k t385 t388).bind fun t391 => (if t391 = true then ((q4z.f k t379 t382).bind fun t392 => ((q10z.f k 2 x0 x1).bind fun t395 => ((q2z.f k t392 t395).bind fun t398 => (if t398 = true then ((q11z.f k t379).bind fun t399 => ((q10z.f k 3 x0 ([] : List (S33))).bind fun t402 => ((q2z.f k t399 t402).bind fun t405 => (if t405 = true then ((q2z.f k t379 x0).bind fun t406 => (if t406 = true then ((q2z.f k t382 x1).bind fun t407 => (some t407)) else (some false))) else (some false))))) else (some false))))) else (some false)))))))
def q18z.f (k : Nat) (l0 : List (S33)) (l1 : List (S33)) : Option (Bool) := (q16z.f k).bind fun t376 => (if t376 = true then ((q17z.f l0).bind fun t377 => (if t377 = true then (q18z.j0 k l0 l1 true) else ((q17z.f l1).bind fun t378 => (q18z.j0 k l0 l1 t378)))) else (some false))
theorem q18z.mono_l : ∀ k, (∀ y0 y1 y2, LeO (q18z.j0 k y0 y1 y2) (q18z.j0 (k + 1) y0 y1 y2))
 | 0 => fun _ _ _ r h => by simp [q18z.j0] at h
 | k + 1 => by
  have ih0 := q18z.mono_l k
  ·
   intro y0 y1 y2
   unfold q18z.j0
   repeat' first
   | (with_reducible exact ih0 _ _ _)
   | (with_reducible exact q16z.mono _)
   | (with_reducible exact q2z.mono _ _ _)
   | (with_reducible exact q10z.mono _ _ _ _)
   | (with_reducible exact q4z.mono _ _ _)
   | (with_reducible exact q11z.mono _ _)
   | (with_reducible exact span_Union.mono _ _ _)
   | (with_reducible exact LeO.refl _)
   | (with_reducible exact LeO.none _)
   | (with_reducible refine LeO.ite ?_ ?_)
   | (with_reducible refine LeO.bind ?_ (fun _ => ?_))
   | exact ih0 _ _ _
   | exact q16z.mono _
   | exact q2z.mono _ _ _
   | exact q10z.mono _ _ _ _
   | exact q4z.mono _ _ _
   | exact q11z.mono _ _
   | exact span_Union.mono _ _ _
   | exact LeO.none _
   | refine LeO.ite ?_ ?_
   | refine LeO.bind ?_ (fun _ => ?_)
theorem q18z.mono : ∀ a0 a1 k, LeO (q18z.f k a0 a1) (q18z.f (k + 1) a0 a1) := by
 intro a0 a1 k
 have ih0 := q18z.mono_l k
 unfold q18z.f
 repeat' first
   | (with_reducible exact ih0 _ _ _)
   | (with_reducible exact q16z.mono _)
   | (with_reducible exact q2z.mono _ _ _)
   | (with_reducible exact q10z.mono _ _ _ _)
   | (with_reducible exact q4z.mono _ _ _)
   | (with_reducible exact q11z.mono _ _)
   | (with_reducible exact span_Union.mono _ _ _)
   | (with_reducible exact LeO.refl _)
   | (with_reducible exact LeO.none _)
   | (with_reducible refine LeO.ite ?_ ?_)
   | (with_reducible refine LeO.bind ?_ (fun _ => ?_))
   | exact ih0 _ _ _
   | exact q16z.mono _
   | exact q2z.mono _ _ _
   | exact q10z.mono _ _ _ _
   | exact q4z.mono _ _ _
   | exact q11z.mono _ _
   | exact span_Union.mono _ _ _
   | exact LeO.none _
   | refine LeO.ite ?_ ?_
   | refine LeO.bind ?_ (fun _ => ?_)
set_option maxHeartbeats 8000000 in
set_option maxRecDepth 100000 in
theorem q18z.calls (k : Nat) (A0 : Option Addr) (c0 : Nat) (l0 : List (S33)) (A1 : Option Addr) (c1 : Nat) (l1 : List (S33)) (r : Bool) (w : World) (hr0 : Kd.C k33 w A0 l0.length l0) (hc0 : l0.length ≤ c0) (hr1 : Kd.C k33 w A1 l1.length l1) (hc1 : l1.length ≤ c1) (h : q18z.f k l0 l1 = some r) :
  Calls Try.prog 6 #[.slice A0 l0.length c0, .slice A1 l1.length c1] w fun e w' => e = .returned (.bool r) ∧ Below w.heap.size w w' := by
 have HR0 := Aside0.mk hr0
 have HC0 := Aside0.mk hc0
 clear hr0 hc0
 have HR1 := Aside0.mk hr1
 have HC1 := Aside0.mk hc1
 clear hr1 hc1
 have HB := Aside0.mk (Below.refl w.heap.size w)
 have H : ((q16z.f k).bind fun t376 => (if t376 = true then ((q17z.f l0).bind fun t377 => (if t377 = true then (q18z.j0 k l0 l1 true) else ((q17z.f l1).bind fun t378 => (q18z.j0 k l0 l1 t378)))) else (some false))) = some r := h
 clear h
 replace H := Option.bind_eq_some_iff.mp H
 obtain ⟨t376, A30, H⟩ := H
 replace H : (if t376 = true then ((q17z.f l0).bind fun t377 => (if t377 = true then (q18z.j0 k l0 l1 true) else ((q17z.f l1).bind fun t378 => (q18z.j0 k l0 l1 t378)))) else (some false)) = some r := H
 have A3 := Aside0.mk A30
 clear A30
 by_cases c4 : t376 = true
 ·
  subst c4
  have H1 : ((q17z.f l0).bind fun t377 => (if t377 = true then (q18z.j0 k l0 l1 true) else ((q17z.f l1).bind fun t378 => (q18z.j0 k l0 l1 t378)))) = some r := by rw [if_pos rfl] at H; exact H
  clear H
  have H := H1
  clear H1
  have HC5 := Aside0.mk H
  clear H
  go_enter Try.func6, Try.ntmps6
  go_upto_region 3 with (first | ((with_reducible refine gate_callee (f := 8) rfl ?_); refine goesL_ (some 7) rfl rfl Try.func8 (by kernel_rfl) rfl #[] rfl (by (try simp only [List.map_toArray, List.map_cons, List.map_nil]); first | done | rfl | (simp only [List.length_drop, List.length_take]; rfl)) ?_; (with_reducible refine (q16z.calls k  true _ A3.out).mono ?_); rintro e w6 ⟨rfl, hb⟩; refine ⟨_, rfl, ?_⟩; have n0_ := Aside0.mk (below_step (by repeat (first | (with_reducible first | exact HB.out | apply below_alloc | apply pw_below_drewN | apply below_drew1) | exact HB.out)) hb); clear HB; have HB := n0_; clear n0_; (try clear hb); (try clear hb2); (try clear hk); (try clear hi)))
  (try simp only [Act.put, List.setIfInBounds_toArray, List.set_cons_zero, List.set_cons_succ])
  go_cut [14] (fun v14 wc => ∃ (kq : Nat) (x14_4 : Bool), v14 = .bool x14_4 ∧ Aside0 (q18z.j0 kq l0 l1 x14_4 = some r) ∧ Aside0 (kq ≤ k) ∧ Aside0 (Below w.heap.size w wc))
  case first =>
   have H := HC5.out
   clear HC5
   replace H := Option.bind_eq_some_iff.mp H
   obtain ⟨t377, A70, H⟩ := H
   replace H : (if t377 = true then (q18z.j0 k l0 l1 true) else ((q17z.f l1).bind fun t378 => (q18z.j0 k l0 l1 t378))) = some r := H
   have A7 := Aside0.mk A70
   clear A70
   by_cases c8 : t377 = true
   ·
    subst c8
    have H1 : (q18z.j0 k l0 l1 true) = some r := by rw [if_pos rfl] at H; exact H
    clear H
    have H := H1
    clear H1
    have H' := Aside0.mk H
    clear H
    go_wp2_with (first | ((with_reducible refine gate_callee (f := 9) rfl ?_); refine goesL_ (some 10) rfl rfl Try.func9 (by kernel_rfl) rfl #[.slice A0 l0.length c0] rfl (by (try simp only [List.map_toArray, List.map_cons, List.map_nil]); first | done | rfl | (simp only [List.length_drop, List.length_take]; rfl)) ?_; (with_reducible refine (q17z.calls _ _ l0 true _ ?side1 ?side2 A7.out).mono ?_); (case side1 => repeat (first | exact (Kd.C_below HR0.out HB.out) | (with_reducible refine Kd.C_alloc ?_ _) | (with_reducible refine Kd.C_drewN ?_ _) | (with_reducible refine Kd.C_drew ?_))); (case side2 => exact HC0.out); rintro e w' ⟨rfl, ⟨nd, rfl⟩⟩; refine ⟨_, rfl, ?_⟩))
    go_meet
    case rel => exact ⟨_, (true), (by first | rfl | (simp; done) | (simp [*]; done)), H', ⟨by first | omega | exact Nat.le_refl _⟩, ⟨by repeat (first | (with_reducible first | exact HB.out | apply below_alloc | apply pw_below_drewN | apply below_drew1) | exact HB.out)⟩⟩
   ·
    replace c8 := Bool.eq_false_iff.mpr c8
    subst c8
    have H1 : ((q17z.f l1).bind fun t378 => (q18z.j0 k l0 l1 t378)) = some r := by rw [if_neg (show ¬ (false = true) by decide)] at H; exact H
    clear H
    have H := H1
    clear H1
    replace H := Option.bind_eq_some_iff.mp H
    obtain ⟨t378, A90, H⟩ := H
    replace H : (q18z.j0 k l0 l1 t378) = some r := H
    have A9 := Aside0.mk A90
    clear A90
    have H' := Aside0.mk H
    clear H
    go_wp2_with (first | ((with_reducible refine gate_callee (f := 9) rfl ?_); refine goesL_ (some 10) rfl rfl Try.func9 (by kernel_rfl) rfl #[.slice A0 l0.length c0] rfl (by (try simp only [List.map_toArray, List.map_cons, List.map_nil]); first | done | rfl | (simp only [List.length_drop, List.length_take]; rfl)) ?_; (with_reducible refine (q17z.calls _ _ l0 false _ ?side1 ?side2 A7.out).mono ?_); (case side1 => repeat (first | exact (Kd.C_below HR0.out HB.out) | (with_reducible refine Kd.C_alloc ?_ _) | (with_reducible refine Kd.C_drewN ?_ _) | (with_reducible refine Kd.C_drew ?_))); (case side2 => exact HC0.out); rintro e w' ⟨rfl, ⟨nd, rfl⟩⟩; refine ⟨_, rfl, ?_⟩) | (go_at_call 9; (with_reducible refine (q17z.calls _ _ l1 t378 _ ?side1 ?side2 A9.out).mono ?_); (case side1 => repeat (first | exact (Kd.C_below HR1.out (by repeat (first | (with_reducible first | exact HB.out | apply below_alloc | apply pw_below_drewN | apply below_drew1) | exact HB.out))) | (with_reducible refine Kd.C_alloc ?_ _) | (with_reducible refine Kd.C_drewN ?_ _) | (with_reducible refine Kd.C_drew ?_))); (case side2 => exact HC1.out); rintro e w' ⟨rfl, ⟨nd, rfl⟩⟩))
    go_meet
    case rel => exact ⟨_, (t378), (by first | rfl | (simp; done) | (simp [*]; done)), H', ⟨by first | omega | exact Nat.le_refl _⟩, ⟨by repeat (first | (with_reducible first | exact HB.out | apply below_alloc | apply pw_below_drewN | apply below_drew1) | exact HB.out)⟩⟩
  case rest =>
   clear HC5
   try clear c1
   try clear p2
   try clear c4
   try clear c6
   try clear c8
   try clear c9
   obtain ⟨kq, x14_4, rfl, HA, HJ4, HB⟩ := hcut
   cases kq with
   | zero => exact absurd HA.out (by simp [q18z.j0])
   | succ kj4 =>
    have H := HA.out
    clear HA
    simp only [q18z.j0] at H
    by_cases c10 : x14_4 = true
    ·
     subst c10
     have H1 : (some true) = some r := by rw [if_pos rfl] at H; exact H
     clear H
     have H := H1
     clear H1
     obtain rfl := Option.some.inj H
     go_wp2
     go_ret
     exact ⟨by first | rfl | (simp [errW_none, errW_some] <;> rfl) | (simp [*, errW_none, errW_some] <;> rfl), by repeat (first | (with_reducible first | exact HB.out | apply below_alloc | apply pw_below_drewN | apply below_drew1) | exact HB.out)⟩
    ·
     replace c10 := Bool.eq_false_iff.mpr c10
     subst c10
     have H1 : ((q3z.f l0).bind fun t379 => ((q3z.f l1).bind fun t382 => ((span_Union.f kj4 t379 t382).bind fun t385 => ((q10z.f kj4 1 l0 l1).bind fun t388 => ((q2z.f kj4 t385 t388).bind fun t391 => (if t391 = true then ((q4z.f kj4 t379 t382).bind fun t392 => ((q10z.f kj4 2 l0 l1).bind fun t395 => ((q2z.f kj4 t392 t395).bind fun t398 => (if t398 = true then ((q11z.f kj4 t379).bind fun t399 => ((q10z.f kj4 3 l0 ([] : List (S33))).bind fun t402 => ((q2z.f kj4 t399 t402).bind fun t405 => (if t405 = true then ((q2z.f kj4 t379 l0).bind fun t406 => (if t406 = true then ((q2z.f kj4 t382 l1).bind fun t407 => (some t407)) else (some false))) else (some false))))) else (some false))))) else (some false))))))) = some r := by rw [if_neg (show ¬ (false = true) by decide)] at H; exact H
     clear H
     have H := H1
     clear H1
     replace H := Option.bind_eq_some_iff.mp H
     obtain ⟨t379, A110, H⟩ := H
     replace H : ((q3z.f l1).bind fun t382 => ((span_Union.f kj4 t379 t382).bind fun t385 => ((q10z.f kj4 1 l0 l1).bind fun t388 => ((q2z.f kj4 t385 t388).bind fun t391 => (if t391 = true then ((q4z.f kj4 t379 t382).bind fun t392 => ((q10z.f kj4 2 l0 l1).bind fun t395 => ((q2z.f kj4 t392 t395).bind fun t398 => (if t398 = true then ((q11z.f kj4 t379).bind fun t399 => ((q10z.f kj4 3 l0 ([] : List (S33))).bind fun t402 => ((q2z.f kj4 t399 t402).bind fun t405 => (if t405 = true then ((q2z.f kj4 t379 l0).bind fun t406 => (if t406 = true then ((q2z.f kj4 t382 l1).bind fun t407 => (some t407)) else (some false))) else (some false))))) else (some false))))) else (some false)))))) = some r := H
     have A11 := Aside0.mk A110
     clear A110
     replace H := Option.bind_eq_some_iff.mp H
     obtain ⟨t382, A120, H⟩ := H
     replace H : ((span_Union.f kj4 t379 t382).bind fun t385 => ((q10z.f kj4 1 l0 l1).bind fun t388 => ((q2z.f kj4 t385 t388).bind fun t391 => (if t391 = true then ((q4z.f kj4 t379 t382).bind fun t392 => ((q10z.f kj4 2 l0 l1).bind fun t395 => ((q2z.f kj4 t392 t395).bind fun t398 => (if t398 = true then ((q11z.f kj4 t379).bind fun t399 => ((q10z.f kj4 3 l0 ([] : List (S33))).bind fun t402 => ((q2z.f kj4 t399 t402).bind fun t405 => (if t405 = true then ((q2z.f kj4 t379 l0).bind fun t406 => (if t406 = true then ((q2z.f kj4 t382 l1).bind fun t407 => (some t407)) else (some false))) else (some false))))) else (some false))))) else (some false))))) = some r := H
     have A12 := Aside0.mk A120
     clear A120
     replace H := Option.bind_eq_some_iff.mp H
     obtain ⟨t385, A130, H⟩ := H
     replace H : ((q10z.f kj4 1 l0 l1).bind fun t388 => ((q2z.f kj4 t385 t388).bind fun t391 => (if t391 = true then ((q4z.f kj4 t379 t382).bind fun t392 => ((q10z.f kj4 2 l0 l1).bind fun t395 => ((q2z.f kj4 t392 t395).bind fun t398 => (if t398 = true then ((q11z.f kj4 t379).bind fun t399 => ((q10z.f kj4 3 l0 ([] : List (S33))).bind fun t402 => ((q2z.f kj4 t399 t402).bind fun t405 => (if t405 = true then ((q2z.f kj4 t379 l0).bind fun t406 => (if t406 = true then ((q2z.f kj4 t382 l1).bind fun t407 => (some t407)) else (some false))) else (some false))))) else (some false))))) else (some false)))) = some r := H
     have A13 := Aside0.mk A130
     clear A130
     replace H := Option.bind_eq_some_iff.mp H
     obtain ⟨t388, A140, H⟩ := H
     replace H : ((q2z.f kj4 t385 t388).bind fun t391 => (if t391 = true then ((q4z.f kj4 t379 t382).bind fun t392 => ((q10z.f kj4 2 l0 l1).bind fun t395 => ((q2z.f kj4 t392 t395).bind fun t398 => (if t398 = true then ((q11z.f kj4 t379).bind fun t399 => ((q10z.f kj4 3 l0 ([] : List (S33))).bind fun t402 => ((q2z.f kj4 t399 t402).bind fun t405 => (if t405 = true then ((q2z.f kj4 t379 l0).bind fun t406 => (if t406 = true then ((q2z.f kj4 t382 l1).bind fun t407 => (some t407)) else (some false))) else (some false))))) else (some false))))) else (some false))) = some r := H
     have A14 := Aside0.mk A140
     clear A140
     replace H := Option.bind_eq_some_iff.mp H
     obtain ⟨t391, A150, H⟩ := H
     replace H : (if t391 = true then ((q4z.f kj4 t379 t382).bind fun t392 => ((q10z.f kj4 2 l0 l1).bind fun t395 => ((q2z.f kj4 t392 t395).bind fun t398 => (if t398 = true then ((q11z.f kj4 t379).bind fun t399 => ((q10z.f kj4 3 l0 ([] : List (S33))).bind fun t402 => ((q2z.f kj4 t399 t402).bind fun t405 => (if t405 = true then ((q2z.f kj4 t379 l0).bind fun t406 => (if t406 = true then ((q2z.f kj4 t382 l1).bind fun t407 => (some t407)) else (some false))) else (some false))))) else (some false))))) else (some false)) = some r := H
     have A15 := Aside0.mk A150
     clear A150
     by_cases c16 : t391 = true
     ·
      subst c16
      have H1 : ((q4z.f kj4 t379 t382).bind fun t392 => ((q10z.f kj4 2 l0 l1).bind fun t395 => ((q2z.f kj4 t392 t395).bind fun t398 => (if t398 = true then ((q11z.f kj4 t379).bind fun t399 => ((q10z.f kj4 3 l0 ([] : List (S33))).bind fun t402 => ((q2z.f kj4 t399 t402).bind fun t405 => (if t405 = true then ((q2z.f kj4 t379 l0).bind fun t406 => (if t406 = true then ((q2z.f kj4 t382 l1).bind fun t407 => (some t407)) else (some false))) else (some false))))) else (some false))))) = some r := by rw [if_pos rfl] at H; exact H
      clear H
      have H := H1
      clear H1
      replace H := Option.bind_eq_some_iff.mp H
      obtain ⟨t392, A170, H⟩ := H
      replace H : ((q10z.f kj4 2 l0 l1).bind fun t395 => ((q2z.f kj4 t392 t395).bind fun t398 => (if t398 = true then ((q11z.f kj4 t379).bind fun t399 => ((q10z.f kj4 3 l0 ([] : List (S33))).bind fun t402 => ((q2z.f kj4 t399 t402).bind fun t405 => (if t405 = true then ((q2z.f kj4 t379 l0).bind fun t406 => (if t406 = true then ((q2z.f kj4 t382 l1).bind fun t407 => (some t407)) else (some false))) else (some false))))) else (some false)))) = some r := H
      have A17 := Aside0.mk A170
      clear A170
      replace H := Option.bind_eq_some_iff.mp H
      obtain ⟨t395, A180, H⟩ := H
      replace H : ((q2z.f kj4 t392 t395).bind fun t398 => (if t398 = true then ((q11z.f kj4 t379).bind fun t399 => ((q10z.f kj4 3 l0 ([] : List (S33))).bind fun t402 => ((q2z.f kj4 t399 t402).bind fun t405 => (if t405 = true then ((q2z.f kj4 t379 l0).bind fun t406 => (if t406 = true then ((q2z.f kj4 t382 l1).bind fun t407 => (some t407)) else (some false))) else (some false))))) else (some false))) = some r := H
      have A18 := Aside0.mk A180
      clear A180
      replace H := Option.bind_eq_some_iff.mp H
      obtain ⟨t398, A190, H⟩ := H
      replace H : (if t398 = true then ((q11z.f kj4 t379).bind fun t399 => ((q10z.f kj4 3 l0 ([] : List (S33))).bind fun t402 => ((q2z.f kj4 t399 t402).bind fun t405 => (if t405 = true then ((q2z.f kj4 t379 l0).bind fun t406 => (if t406 = true then ((q2z.f kj4 t382 l1).bind fun t407 => (some t407)) else (some false))) else (some false))))) else (some false)) = some r := H
      have A19 := Aside0.mk A190
      clear A190
      by_cases c20 : t398 = true
      ·
       subst c20
       have H1 : ((q11z.f kj4 t379).bind fun t399 => ((q10z.f kj4 3 l0 ([] : List (S33))).bind fun t402 => ((q2z.f kj4 t399 t402).bind fun t405 => (if t405 = true then ((q2z.f kj4 t379 l0).bind fun t406 => (if t406 = true then ((q2z.f kj4 t382 l1).bind fun t407 => (some t407)) else (some false))) else (some false))))) = some r := by rw [if_pos rfl] at H; exact H
       clear H
       have H := H1
       clear H1
       replace H := Option.bind_eq_some_iff.mp H
       obtain ⟨t399, A210, H⟩ := H
       replace H : ((q10z.f kj4 3 l0 ([] : List (S33))).bind fun t402 => ((q2z.f kj4 t399 t402).bind fun t405 => (if t405 = true then ((q2z.f kj4 t379 l0).bind fun t406 => (if t406 = true then ((q2z.f kj4 t382 l1).bind fun t407 => (some t407)) else (some false))) else (some false)))) = some r := H
       have A21 := Aside0.mk A210
       clear A210
       replace H := Option.bind_eq_some_iff.mp H
       obtain ⟨t402, A220, H⟩ := H
       replace H : ((q2z.f kj4 t399 t402).bind fun t405 => (if t405 = true then ((q2z.f kj4 t379 l0).bind fun t406 => (if t406 = true then ((q2z.f kj4 t382 l1).bind fun t407 => (some t407)) else (some false))) else (some false))) = some r := H
       have A22 := Aside0.mk A220
       clear A220
       replace H := Option.bind_eq_some_iff.mp H
       obtain ⟨t405, A230, H⟩ := H
       replace H : (if t405 = true then ((q2z.f kj4 t379 l0).bind fun t406 => (if t406 = true then ((q2z.f kj4 t382 l1).bind fun t407 => (some t407)) else (some false))) else (some false)) = some r := H
       have A23 := Aside0.mk A230
       clear A230
       by_cases c24 : t405 = true
       ·
        subst c24
        have H1 : ((q2z.f kj4 t379 l0).bind fun t406 => (if t406 = true then ((q2z.f kj4 t382 l1).bind fun t407 => (some t407)) else (some false))) = some r := by rw [if_pos rfl] at H; exact H
        clear H
        have H := H1
        clear H1
        replace H := Option.bind_eq_some_iff.mp H
        obtain ⟨t406, A250, H⟩ := H
        replace H : (if t406 = true then ((q2z.f kj4 t382 l1).bind fun t407 => (some t407)) else (some false)) = some r := H
        have A25 := Aside0.mk A250
        clear A250
        by_cases c26 : t406 = true
        ·
         subst c26
         have H1 : ((q2z.f kj4 t382 l1).bind fun t407 => (some t407)) = some r := by rw [if_pos rfl] at H; exact H
         clear H
         have H := H1
         clear H1
         replace H := Option.bind_eq_some_iff.mp H
         obtain ⟨t407, A270, H⟩ := H
         replace H : (some t407) = some r := H
         have A27 := Aside0.mk A270
         clear A270
         obtain rfl := Option.some.inj H
         go_wp2_with (first | ((with_reducible refine gate_callee (f := 13) rfl ?_); refine goesL_ (some 16) rfl rfl Try.func13 (by kernel_rfl) rfl #[.slice A0 l0.length c0] rfl (by (try simp only [List.map_toArray, List.map_cons, List.map_nil]); first | done | rfl | (simp only [List.length_drop, List.length_take]; rfl)) ?_; (with_reducible refine (q3z.calls _ _ l0 t379 _ ?side1 ?side2 A11.out).mono ?_); (case side1 => repeat (first | exact (Kd.C_below HR0.out HB.out) | (with_reducible refine Kd.C_alloc ?_ _) | (with_reducible refine Kd.C_drewN ?_ _) | (with_reducible refine Kd.C_drew ?_))); (case side2 => exact HC0.out); rintro e w28 ⟨v380, rfl, ho0, hb⟩; refine ⟨_, rfl, ?_⟩; have n0_ := Aside0.mk (Kd.R_lower ho0 (below_size (by repeat (first | (with_reducible first | exact HB.out | apply below_alloc | apply pw_below_drewN | apply below_drew1) | exact HB.out)))); have n1_ := Aside0.mk (below_step (by repeat (first | (with_reducible first | exact HB.out | apply below_alloc | apply pw_below_drewN | apply below_drew1) | exact HB.out)) hb); clear HB; have HO381 := n0_; have HB := n1_; clear n0_ n1_; (try clear hb); (try clear hb2); (try clear hk); (try clear hi); (try clear ho0)) | ((with_reducible refine gate_callee (f := 13) rfl ?_); refine goesL_ (some 18) rfl rfl Try.func13 (by kernel_rfl) rfl #[.slice A1 l1.length c1] rfl (by (try simp only [List.map_toArray, List.map_cons, List.map_nil]); first | done | rfl | (simp only [List.length_drop, List.length_take]; rfl)) ?_; (with_reducible refine (q3z.calls _ _ l1 t382 _ ?side1 ?side2 A12.out).mono ?_); (case side1 => repeat (first | exact (Kd.C_below HR1.out HB.out) | (with_reducible refine Kd.C_alloc ?_ _) | (with_reducible refine Kd.C_drewN ?_ _) | (with_reducible refine Kd.C_drew ?_))); (case side2 => exact HC1.out); rintro e w29 ⟨v383, rfl, ho0, hb⟩; refine ⟨_, rfl, ?_⟩; have n0_ := Aside0.mk (Kd.R_elder' (by (with_reducible repeat (first | apply Kd.R_alloc | apply Kd.R_drewN | apply Kd.R_drew)); exact HO381.out) (Kd.R_base ho0) hb); have n1_ := Aside0.mk (Kd.R_lower (Kd.R_new' ho0 (Kd.R_lt (by (with_reducible repeat (first | apply Kd.R_alloc | apply Kd.R_drewN | apply Kd.R_drew)); exact HO381.out))) (below_size (by repeat (first | (with_reducible first | exact HB.out | apply below_alloc | apply pw_below_drewN | apply below_drew1) | exact HB.out)))); have n2_ := Aside0.mk (below_step (by repeat (first | (with_reducible first | exact HB.out | apply below_alloc | apply pw_below_drewN | apply below_drew1) | exact HB.out)) hb); clear HO381; clear HB; have HO381 := n0_; have HO384 := n1_; have HB := n2_; clear n0_ n1_ n2_; (try clear hb); (try clear hb2); (try clear hk); (try clear hi); (try clear ho0); obtain ⟨Ao30, co30, eo30⟩ := Kd.R_slice HO381.out; subst eo30; obtain ⟨Ao31, co31, eo31⟩ := Kd.R_slice HO384.out; subst eo31) | ((with_reducible refine gate_callee (f := 19) rfl ?_); refine goesL_ (some 21) rfl rfl Try.func19 (by kernel_rfl) rfl #[.slice Ao30 t379.length co30, .slice Ao31 t382.length co31] rfl (by (try simp only [List.map_toArray, List.map_cons, List.map_nil]); first | done | rfl | (simp only [List.length_drop, List.length_take]; rfl)) ?_; (with_reducible refine (span_Union.calls kj4 _ _ t379 _ _ t382 t385 _ ?side1 ?side2 ?side3 ?side4 A13.out).mono ?_); (case side1 => repeat (first | exact (Kd.R_reads' HO381.out).2.2 | (with_reducible refine Kd.C_alloc ?_ _) | (with_reducible refine Kd.C_drewN ?_ _) | (with_reducible refine Kd.C_drew ?_))); (case side2 => exact (Kd.R_reads' HO381.out).2.1); (case side3 => repeat (first | exact (Kd.R_reads' HO384.out).2.2 | (with_reducible refine Kd.C_alloc ?_ _) | (with_reducible refine Kd.C_drewN ?_ _) | (with_reducible refine Kd.C_drew ?_))); (case side4 => exact (Kd.R_reads' HO384.out).2.1); rintro e w32 ⟨v386, rfl, ho0, hb⟩; refine ⟨_, rfl, ?_⟩; have n0_ := Aside0.mk (Kd.R_elder' (by (with_reducible repeat (first | apply Kd.R_alloc | apply Kd.R_drewN | apply Kd.R_drew)); exact HO381.out) (Kd.R_base ho0) hb); have n1_ := Aside0.mk (Kd.R_elder' (by (with_reducible repeat (first | apply Kd.R_alloc | apply Kd.R_drewN | apply Kd.R_drew)); exact HO384.out) (Kd.R_base ho0) hb); have n2_ := Aside0.mk (Kd.R_lower (Kd.R_new' (Kd.R_new' ho0 (Kd.R_lt (by (with_reducible repeat (first | apply Kd.R_alloc | apply Kd.R_drewN | apply Kd.R_drew)); exact HO381.out))) (Kd.R_lt (by (with_reducible repeat (first | apply Kd.R_alloc | apply Kd.R_drewN | apply Kd.R_drew)); exact HO384.out))) (below_size (by repeat (first | (with_reducible first | exact HB.out | apply below_alloc | apply pw_below_drewN | apply below_drew1) | exact HB.out)))); have n3_ := Aside0.mk (below_step (by repeat (first | (with_reducible first | exact HB.out | apply below_alloc | apply pw_below_drewN | apply below_drew1) | exact HB.out)) hb); clear HO381; clear HO384; clear HB; have HO381 := n0_; have HO384 := n1_; have HO387 := n2_; have HB := n3_; clear n0_ n1_ n2_ n3_; (try clear hb); (try clear hb2); (try clear hk); (try clear hi); (try clear ho0)) | ((with_reducible refine gate_callee (f := 20) rfl ?_); refine goesL_ (some 24) rfl rfl Try.func20 (by kernel_rfl) rfl #[.int .i64 1, .slice A0 l0.length c0, .slice A1 l1.length c1] rfl (by (try simp only [List.map_toArray, List.map_cons, List.map_nil]); first | done | rfl | (simp only [List.length_drop, List.length_take]; rfl)) ?_; (with_reducible refine (q10z.calls kj4 1 (fun k_ => k_ < w.heap.size) _ _ l0 (fun k_ => k_ < w.heap.size) _ _ l1 t388 _ ?side1 ?side2 A14.out).mono ?_); (case side1 => exact Kd.V_mk HC0.out (Kd.F_below (Kd.C_F k33_heap HR0.out) (by repeat (first | (with_reducible first | exact HB.out | apply below_alloc | apply pw_below_drewN | apply below_drew1) | exact HB.out)))); (case side2 => exact Kd.V_mk HC1.out (Kd.F_below (Kd.C_F k33_heap HR1.out) (by repeat (first | (with_reducible first | exact HB.out | apply below_alloc | apply pw_below_drewN | apply below_drew1) | exact HB.out)))); rintro e w33 ⟨v389, rfl, ho0, hb⟩; refine ⟨_, rfl, ?_⟩; have n0_ := Aside0.mk (Kd.R_elder' (by (with_reducible repeat (first | apply Kd.R_alloc | apply Kd.R_drewN | apply Kd.R_drew)); exact HO381.out) (Kd.R_base ho0) hb); have n1_ := Aside0.mk (Kd.R_elder' (by (with_reducible repeat (first | apply Kd.R_alloc | apply Kd.R_drewN | apply Kd.R_drew)); exact HO384.out) (Kd.R_base ho0) hb); have n2_ := Aside0.mk (Kd.R_elder' (by (with_reducible repeat (first | apply Kd.R_alloc | apply Kd.R_drewN | apply Kd.R_drew)); exact HO387.out) (Kd.R_base ho0) hb); have n3_ := Aside0.mk (Kd.R_lower (Kd.R_new' (Kd.R_new' (Kd.R_new' (Kd.R_mono (ok' := fun k_ => True) ho0 (fun _ hk_ => trivial)) (Kd.R_lt (by (with_reducible repeat (first | apply Kd.R_alloc | apply Kd.R_drewN | apply Kd.R_drew)); exact HO381.out))) (Kd.R_lt (by (with_reducible repeat (first | apply Kd.R_alloc | apply Kd.R_drewN | apply Kd.R_drew)); exact HO384.out))) (Kd.R_lt (by (with_reducible repeat (first | apply Kd.R_alloc | apply Kd.R_drewN | apply Kd.R_drew)); exact HO387.out))) (below_size (by repeat (first | (with_reducible first | exact HB.out | apply below_alloc | apply pw_below_drewN | apply below_drew1) | exact HB.out)))); have n4_ := Aside0.mk (below_step (by repeat (first | (with_reducible first | exact HB.out | apply below_alloc | apply pw_below_drewN | apply below_drew1) | exact HB.out)) hb); clear HO381; clear HO384; clear HO387; clear HB; have HO381 := n0_; have HO384 := n1_; have HO387 := n2_; have HO390 := n3_; have HB := n4_; clear n0_ n1_ n2_ n3_ n4_; (try clear hb); (try clear hb2); (try clear hk); (try clear hi); (try clear ho0); obtain ⟨Ao34, co34, eo34⟩ := Kd.R_slice HO387.out; subst eo34; obtain ⟨Ao35, co35, eo35⟩ := Kd.R_slice HO390.out; subst eo35) | ((with_reducible refine gate_callee (f := 10) rfl ?_); refine goesL_ (some 25) rfl rfl Try.func10 (by kernel_rfl) rfl #[.slice Ao34 t385.length co34, .slice Ao35 t388.length co35] rfl (by (try simp only [List.map_toArray, List.map_cons, List.map_nil]); first | done | rfl | (simp only [List.length_drop, List.length_take]; rfl)) ?_; (with_reducible refine (q2z.calls kj4 _ _ t385 _ _ t388 true _ ?side1 ?side2 ?side3 ?side4 A15.out).mono ?_); (case side1 => repeat (first | exact (Kd.R_reads' HO387.out).2.2 | (with_reducible refine Kd.C_alloc ?_ _) | (with_reducible refine Kd.C_drewN ?_ _) | (with_reducible refine Kd.C_drew ?_))); (case side2 => exact (Kd.R_reads' HO387.out).2.1); (case side3 => repeat (first | exact (Kd.R_reads' HO390.out).2.2 | (with_reducible refine Kd.C_alloc ?_ _) | (with_reducible refine Kd.C_drewN ?_ _) | (with_reducible refine Kd.C_drew ?_))); (case side4 => exact (Kd.R_reads' HO390.out).2.1); rintro e w' ⟨rfl, ⟨nd, rfl⟩⟩; refine ⟨_, rfl, ?_⟩) | (go_at_call 18; (with_reducible refine (q4z.calls kj4 _ _ t379 _ _ t382 t392 _ ?side1 ?side2 ?side3 ?side4 A17.out).mono ?_); (case side1 => repeat (first | exact (Kd.R_reads' HO381.out).2.2 | (with_reducible refine Kd.C_alloc ?_ _) | (with_reducible refine Kd.C_drewN ?_ _) | (with_reducible refine Kd.C_drew ?_))); (case side2 => exact (Kd.R_reads' HO381.out).2.1); (case side3 => repeat (first | exact (Kd.R_reads' HO384.out).2.2 | (with_reducible refine Kd.C_alloc ?_ _) | (with_reducible refine Kd.C_drewN ?_ _) | (with_reducible refine Kd.C_drew ?_))); (case side4 => exact (Kd.R_reads' HO384.out).2.1); rintro e w36 ⟨v393, rfl, ho0, hb⟩; have n0_ := Aside0.mk (Kd.R_elder' (by (with_reducible repeat (first | apply Kd.R_alloc | apply Kd.R_drewN | apply Kd.R_drew)); exact HO381.out) (Kd.R_base ho0) hb); have n1_ := Aside0.mk (Kd.R_elder' (by (with_reducible repeat (first | apply Kd.R_alloc | apply Kd.R_drewN | apply Kd.R_drew)); exact HO384.out) (Kd.R_base ho0) hb); have n2_ := Aside0.mk (Kd.R_elder' (by (with_reducible repeat (first | apply Kd.R_alloc | apply Kd.R_drewN | apply Kd.R_drew)); exact HO387.out) (Kd.R_base ho0) hb); have n3_ := Aside0.mk (Kd.R_elder' (by (with_reducible repeat (first | apply Kd.R_alloc | apply Kd.R_drewN | apply Kd.R_drew)); exact HO390.out) (Kd.R_base ho0) hb); have n4_ := Aside0.mk (Kd.R_lower (Kd.R_new' (Kd.R_new' (Kd.R_new' (Kd.R_new' ho0 (Kd.R_lt (by (with_reducible repeat (first | apply Kd.R_alloc | apply Kd.R_drewN | apply Kd.R_drew)); exact HO381.out))) (Kd.R_lt (by (with_reducible repeat (first | apply Kd.R_alloc | apply Kd.R_drewN | apply Kd.R_drew)); exact HO384.out))) (Kd.R_lt (by (with_reducible repeat (first | apply Kd.R_alloc | apply Kd.R_drewN | apply Kd.R_drew)); exact HO387.out))) (Kd.R_lt (by (with_reducible repeat (first | apply Kd.R_alloc | apply Kd.R_drewN | apply Kd.R_drew)); exact HO390.out))) (below_size (by repeat (first | (with_reducible first | exact HB.out | apply below_alloc | apply pw_below_drewN | apply below_drew1) | exact HB.out)))); have n5_ := Aside0.mk (below_step (by repeat (first | (with_reducible first | exact HB.out | apply below_alloc | apply pw_below_drewN | apply below_drew1) | exact HB.out)) hb); clear HO381; clear HO384; clear HO387; clear HO390; clear HB; have HO381 := n0_; have HO384 := n1_; have HO387 := n2_; have HO390 := n3_; have HO394 := n4_; have HB := n5_; clear n0_ n1_ n2_ n3_ n4_ n5_; (try clear hb); (try clear hb2); (try clear hk); (try clear hi); (try clear ho0)) | (go_at_call 20; (with_reducible refine (q10z.calls kj4 2 (fun k_ => k_ < w.heap.size) _ _ l0 (fun k_ => k_ < w.heap.size) _ _ l1 t395 _ ?side1 ?side2 A18.out).mono ?_); (case side1 => exact Kd.V_mk HC0.out (Kd.F_below (Kd.C_F k33_heap HR0.out) (by repeat (first | (with_reducible first | exact HB.out | apply below_alloc | apply pw_below_drewN | apply below_drew1) | exact HB.out)))); (case side2 => exact Kd.V_mk HC1.out (Kd.F_below (Kd.C_F k33_heap HR1.out) (by repeat (first | (with_reducible first | exact HB.out | apply below_alloc | apply pw_below_drewN | apply below_drew1) | exact HB.out)))); rintro e w37 ⟨v396, rfl, ho0, hb⟩; have n0_ := Aside0.mk (Kd.R_elder' (by (with_reducible repeat (first | apply Kd.R_alloc | apply Kd.R_drewN | apply Kd.R_drew)); exact HO381.out) (Kd.R_base ho0) hb); have n1_ := Aside0.mk (Kd.R_elder' (by (with_reducible repeat (first | apply Kd.R_alloc | apply Kd.R_drewN | apply Kd.R_drew)); exact HO384.out) (Kd.R_base ho0) hb); have n2_ := Aside0.mk (Kd.R_elder' (by (with_reducible repeat (first | apply Kd.R_alloc | apply Kd.R_drewN | apply Kd.R_drew)); exact HO387.out) (Kd.R_base ho0) hb); have n3_ := Aside0.mk (Kd.R_elder' (by (with_reducible repeat (first | apply Kd.R_alloc | apply Kd.R_drewN | apply Kd.R_drew)); exact HO390.out) (Kd.R_base ho0) hb); have n4_ := Aside0.mk (Kd.R_elder' (by (with_reducible repeat (first | apply Kd.R_alloc | apply Kd.R_drewN | apply Kd.R_drew)); exact HO394.out) (Kd.R_base ho0) hb); have n5_ := Aside0.mk (Kd.R_lower (Kd.R_new' (Kd.R_new' (Kd.R_new' (Kd.R_new' (Kd.R_new' (Kd.R_mono (ok' := fun k_ => True) ho0 (fun _ hk_ => trivial)) (Kd.R_lt (by (with_reducible repeat (first | apply Kd.R_alloc | apply Kd.R_drewN | apply Kd.R_drew)); exact HO381.out))) (Kd.R_lt (by (with_reducible repeat (first | apply Kd.R_alloc | apply Kd.R_drewN | apply Kd.R_drew)); exact HO384.out))) (Kd.R_lt (by (with_reducible repeat (first | apply Kd.R_alloc | apply Kd.R_drewN | apply Kd.R_drew)); exact HO387.out))) (Kd.R_lt (by (with_reducible repeat (first | apply Kd.R_alloc | apply Kd.R_drewN | apply Kd.R_drew)); exact HO390.out))) (Kd.R_lt (by (with_reducible repeat (first | apply Kd.R_alloc | apply Kd.R_drewN | apply Kd.R_drew)); exact HO394.out))) (below_size (by repeat (first | (with_reducible first | exact HB.out | apply below_alloc | apply pw_below_drewN | apply below_drew1) | exact HB.out)))); have n6_ := Aside0.mk (below_step (by repeat (first | (with_reducible first | exact HB.out | apply below_alloc | apply pw_below_drewN | apply below_drew1) | exact HB.out)) hb); clear HO381; clear HO384; clear HO387; clear HO390; clear HO394; clear HB; have HO381 := n0_; have HO384 := n1_; have HO387 := n2_; have HO390 := n3_; have HO394 := n4_; have HO397 := n5_; have HB := n6_; clear n0_ n1_ n2_ n3_ n4_ n5_ n6_; (try clear hb); (try clear hb2); (try clear hk); (try clear hi); (try clear ho0); obtain ⟨Ao38, co38, eo38⟩ := Kd.R_slice HO394.out; subst eo38; obtain ⟨Ao39, co39, eo39⟩ := Kd.R_slice HO397.out; subst eo39) | (go_at_call 10; (with_reducible refine (q2z.calls kj4 _ _ t392 _ _ t395 true _ ?side1 ?side2 ?side3 ?side4 A19.out).mono ?_); (case side1 => repeat (first | exact (Kd.R_reads' HO394.out).2.2 | (with_reducible refine Kd.C_alloc ?_ _) | (with_reducible refine Kd.C_drewN ?_ _) | (with_reducible refine Kd.C_drew ?_))); (case side2 => exact (Kd.R_reads' HO394.out).2.1); (case side3 => repeat (first | exact (Kd.R_reads' HO397.out).2.2 | (with_reducible refine Kd.C_alloc ?_ _) | (with_reducible refine Kd.C_drewN ?_ _) | (with_reducible refine Kd.C_drew ?_))); (case side4 => exact (Kd.R_reads' HO397.out).2.1); rintro e w' ⟨rfl, ⟨nd, rfl⟩⟩) | (go_at_call 21; (with_reducible refine (q11z.calls kj4 _ _ t379 t399 _ ?side1 ?side2 A21.out).mono ?_); (case side1 => repeat (first | exact (Kd.R_reads' HO381.out).2.2 | (with_reducible refine Kd.C_alloc ?_ _) | (with_reducible refine Kd.C_drewN ?_ _) | (with_reducible refine Kd.C_drew ?_))); (case side2 => exact (Kd.R_reads' HO381.out).2.1); rintro e w40 ⟨v400, rfl, ho0, hb⟩; have n0_ := Aside0.mk (Kd.R_elder' (by (with_reducible repeat (first | apply Kd.R_alloc | apply Kd.R_drewN | apply Kd.R_drew)); exact HO381.out) (Kd.R_base ho0) hb); have n1_ := Aside0.mk (Kd.R_elder' (by (with_reducible repeat (first | apply Kd.R_alloc | apply Kd.R_drewN | apply Kd.R_drew)); exact HO384.out) (Kd.R_base ho0) hb); have n2_ := Aside0.mk (Kd.R_elder' (by (with_reducible repeat (first | apply Kd.R_alloc | apply Kd.R_drewN | apply Kd.R_drew)); exact HO387.out) (Kd.R_base ho0) hb); have n3_ := Aside0.mk (Kd.R_elder' (by (with_reducible repeat (first | apply Kd.R_alloc | apply Kd.R_drewN | apply Kd.R_drew)); exact HO390.out) (Kd.R_base ho0) hb); have n4_ := Aside0.mk (Kd.R_elder' (by (with_reducible repeat (first | apply Kd.R_alloc | apply Kd.R_drewN | apply Kd.R_drew)); exact HO394.out) (Kd.R_base ho0) hb); have n5_ := Aside0.mk (Kd.R_elder' (by (with_reducible repeat (first | apply Kd.R_alloc | apply Kd.R_drewN | apply Kd.R_drew)); exact HO397.out) (Kd.R_base ho0) hb); have n6_ := Aside0.mk (Kd.R_lower (Kd.R_new' (Kd.R_new' (Kd.R_new' (Kd.R_new' (Kd.R_new' (Kd.R_new' ho0 (Kd.R_lt (by (with_reducible repeat (first | apply Kd.R_alloc | apply Kd.R_drewN | apply Kd.R_drew)); exact HO381.out))) (Kd.R_lt (by (with_reducible repeat (first | apply Kd.R_alloc | apply Kd.R_drewN | apply Kd.R_drew)); exact HO384.out))) (Kd.R_lt (by (with_reducible repeat (first | apply Kd.R_alloc | apply Kd.R_drewN | apply Kd.R_drew)); exact HO387.out))) (Kd.R_lt (by (with_reducible repeat (first | apply Kd.R_alloc | apply Kd.R_drewN | apply Kd.R_drew)); exact HO390.out))) (Kd.R_lt (by (with_reducible repeat (first | apply Kd.R_alloc | apply Kd.R_drewN | apply Kd.R_drew)); exact HO394.out))) (Kd.R_lt (by (with_reducible repeat (first | apply Kd.R_alloc | apply Kd.R_drewN | apply Kd.R_drew)); exact HO397.out))) (below_size (by repeat (first | (with_reducible first | exact HB.out | apply below_alloc | apply pw_below_drewN | apply below_drew1) | exact HB.out)))); have n7_ := Aside0.mk (below_step (by repeat (first | (with_reducible first | exact HB.out | apply below_alloc | apply pw_below_drewN | apply below_drew1) | exact HB.out)) hb); clear HO381; clear HO384; clear HO387; clear HO390; clear HO394; clear HO397; clear HB; have HO381 := n0_; have HO384 := n1_; have HO387 := n2_; have HO390 := n3_; have HO394 := n4_; have HO397 := n5_; have HO401 := n6_; have HB := n7_; clear n0_ n1_ n2_ n3_ n4_ n5_ n6_ n7_; (try clear hb); (try clear hb2); (try clear hk); (try clear hi); (try clear ho0)) | (go_at_call 20; (refine (q10z.calls kj4 3 (fun k_ => k_ < w.heap.size) _ _ l0 (fun k_ => False) _ _ ([] : List (S33)) t402 _ ?side1 ?side2 A22.out).mono ?_); (case side1 => exact Kd.V_mk HC0.out (Kd.F_below (Kd.C_F k33_heap HR0.out) (by repeat (first | (with_reducible first | exact HB.out | apply below_alloc | apply pw_below_drewN | apply below_drew1) | exact HB.out)))); (case side2 => exact Kd.V_nil _ _ _ _ _); rintro e w41 ⟨v403, rfl, ho0, hb⟩; have n0_ := Aside0.mk (Kd.R_elder' (by (with_reducible repeat (first | apply Kd.R_alloc | apply Kd.R_drewN | apply Kd.R_drew)); exact HO381.out) (Kd.R_base ho0) hb); have n1_ := Aside0.mk (Kd.R_elder' (by (with_reducible repeat (first | apply Kd.R_alloc | apply Kd.R_drewN | apply Kd.R_drew)); exact HO384.out) (Kd.R_base ho0) hb); have n2_ := Aside0.mk (Kd.R_elder' (by (with_reducible repeat (first | apply Kd.R_alloc | apply Kd.R_drewN | apply Kd.R_drew)); exact HO387.out) (Kd.R_base ho0) hb); have n3_ := Aside0.mk (Kd.R_elder' (by (with_reducible repeat (first | apply Kd.R_alloc | apply Kd.R_drewN | apply Kd.R_drew)); exact HO390.out) (Kd.R_base ho0) hb); have n4_ := Aside0.mk (Kd.R_elder' (by (with_reducible repeat (first | apply Kd.R_alloc | apply Kd.R_drewN | apply Kd.R_drew)); exact HO394.out) (Kd.R_base ho0) hb); have n5_ := Aside0.mk (Kd.R_elder' (by (with_reducible repeat (first | apply Kd.R_alloc | apply Kd.R_drewN | apply Kd.R_drew)); exact HO397.out) (Kd.R_base ho0) hb); have n6_ := Aside0.mk (Kd.R_elder' (by (with_reducible repeat (first | apply Kd.R_alloc | apply Kd.R_drewN | apply Kd.R_drew)); exact HO401.out) (Kd.R_base ho0) hb); have n7_ := Aside0.mk (Kd.R_lower (Kd.R_new' (Kd.R_new' (Kd.R_new' (Kd.R_new' (Kd.R_new' (Kd.R_new' (Kd.R_new' (Kd.R_mono (ok' := fun k_ => True) ho0 (fun _ hk_ => trivial)) (Kd.R_lt (by (with_reducible repeat (first | apply Kd.R_alloc | apply Kd.R_drewN | apply Kd.R_drew)); exact HO381.out))) (Kd.R_lt (by (with_reducible repeat (first | apply Kd.R_alloc | apply Kd.R_drewN | apply Kd.R_drew)); exact HO384.out))) (Kd.R_lt (by (with_reducible repeat (first | apply Kd.R_alloc | apply Kd.R_drewN | apply Kd.R_drew)); exact HO387.out))) (Kd.R_lt (by (with_reducible repeat (first | apply Kd.R_alloc | apply Kd.R_drewN | apply Kd.R_drew)); exact HO390.out))) (Kd.R_lt (by (with_reducible repeat (first | apply Kd.R_alloc | apply Kd.R_drewN | apply Kd.R_drew)); exact HO394.out))) (Kd.R_lt (by (with_reducible repeat (first | apply Kd.R_alloc | apply Kd.R_drewN | apply Kd.R_drew)); exact HO397.out))) (Kd.R_lt (by (with_reducible repeat (first | apply Kd.R_alloc | apply Kd.R_drewN | apply Kd.R_drew)); exact HO401.out))) (below_size (by repeat (first | (with_reducible first | exact HB.out | apply below_alloc | apply pw_below_drewN | apply below_drew1) | exact HB.out)))); have n8_ := Aside0.mk (below_step (by repeat (first | (with_reducible first | exact HB.out | apply below_alloc | apply pw_below_drewN | apply below_drew1) | exact HB.out)) hb); clear HO381; clear HO384; clear HO387; clear HO390; clear HO394; clear HO397; clear HO401; clear HB; have HO381 := n0_; have HO384 := n1_; have HO387 := n2_; have HO390 := n3_; have HO394 := n4_; have HO397 := n5_; have HO401 := n6_; have HO404 := n7_; have HB := n8_; clear n0_ n1_ n2_ n3_ n4_ n5_ n6_ n7_ n8_; (try clear hb); (try clear hb2); (try clear hk); (try clear hi); (try clear ho0); obtain ⟨Ao42, co42, eo42⟩ := Kd.R_slice HO401.out; subst eo42; obtain ⟨Ao43, co43, eo43⟩ := Kd.R_slice HO404.out; subst eo43) | (go_at_call 10; (with_reducible refine (q2z.calls kj4 _ _ t399 _ _ t402 true _ ?side1 ?side2 ?side3 ?side4 A23.out).mono ?_); (case side1 => repeat (first | exact (Kd.R_reads' HO401.out).2.2 | (with_reducible refine Kd.C_alloc ?_ _) | (with_reducible refine Kd.C_drewN ?_ _) | (with_reducible refine Kd.C_drew ?_))); (case side2 => exact (Kd.R_reads' HO401.out).2.1); (case side3 => repeat (first | exact (Kd.R_reads' HO404.out).2.2 | (with_reducible refine Kd.C_alloc ?_ _) | (with_reducible refine Kd.C_drewN ?_ _) | (with_reducible refine Kd.C_drew ?_))); (case side4 => exact (Kd.R_reads' HO404.out).2.1); rintro e w' ⟨rfl, ⟨nd, rfl⟩⟩) | (go_at_call 10; (with_reducible refine (q2z.calls kj4 _ _ t379 _ _ l0 true _ ?side1 ?side2 ?side3 ?side4 A25.out).mono ?_); (case side1 => repeat (first | exact (Kd.R_reads' HO381.out).2.2 | (with_reducible refine Kd.C_alloc ?_ _) | (with_reducible refine Kd.C_drewN ?_ _) | (with_reducible refine Kd.C_drew ?_))); (case side2 => exact (Kd.R_reads' HO381.out).2.1); (case side3 => repeat (first | exact (Kd.C_below HR0.out (by repeat (first | (with_reducible first | exact HB.out | apply below_alloc | apply pw_below_drewN | apply below_drew1) | exact HB.out))) | (with_reducible refine Kd.C_alloc ?_ _) | (with_reducible refine Kd.C_drewN ?_ _) | (with_reducible refine Kd.C_drew ?_))); (case side4 => exact HC0.out); rintro e w' ⟨rfl, ⟨nd, rfl⟩⟩) | (go_at_call 10; (with_reducible refine (q2z.calls kj4 _ _ t382 _ _ l1 t407 _ ?side1 ?side2 ?side3 ?side4 A27.out).mono ?_); (case side1 => repeat (first | exact (Kd.R_reads' HO384.out).2.2 | (with_reducible refine Kd.C_alloc ?_ _) | (with_reducible refine Kd.C_drewN ?_ _) | (with_reducible refine Kd.C_drew ?_))); (case side2 => exact (Kd.R_reads' HO384.out).2.1); (case side3 => repeat (first | exact (Kd.C_below HR1.out (by repeat (first | (with_reducible first | exact HB.out | apply below_alloc | apply pw_below_drewN | apply below_drew1) | exact HB.out))) | (with_reducible refine Kd.C_alloc ?_ _) | (with_reducible refine Kd.C_drewN ?_ _) | (with_reducible refine Kd.C_drew ?_))); (case side4 => exact HC1.out); rintro e w' ⟨rfl, ⟨nd, rfl⟩⟩))
         go_ret
         exact ⟨by first | rfl | (simp [errW_none, errW_some] <;> rfl) | (simp [*, errW_none, errW_some] <;> rfl), by repeat (first | (with_reducible first | exact HB.out | apply below_alloc | apply pw_below_drewN | apply below_drew1) | exact HB.out)⟩
        ·
         replace c26 := Bool.eq_false_iff.mpr c26
         subst c26
         have H1 : (some false) = some r := by rw [if_neg (show ¬ (false = true) by decide)] at H; exact H
         clear H
         have H := H1
         clear H1
         obtain rfl := Option.some.inj H
         go_wp2_with (first | ((with_reducible refine gate_callee (f := 13) rfl ?_); refine goesL_ (some 16) rfl rfl Try.func13 (by kernel_rfl) rfl #[.slice A0 l0.length c0] rfl (by (try simp only [List.map_toArray, List.map_cons, List.map_nil]); first | done | rfl | (simp only [List.length_drop, List.length_take]; rfl)) ?_; (with_reducible refine (q3z.calls _ _ l0 t379 _ ?side1 ?side2 A11.out).mono ?_); (case side1 => repeat (first | exact (Kd.C_below HR0.out HB.out) | (with_reducible refine Kd.C_alloc ?_ _) | (with_reducible refine Kd.C_drewN ?_ _) | (with_reducible refine Kd.C_drew ?_))); (case side2 => exact HC0.out); rintro e w44 ⟨v380, rfl, ho0, hb⟩; refine ⟨_, rfl, ?_⟩; have n0_ := Aside0.mk (Kd.R_lower ho0 (below_size (by repeat (first | (with_reducible first | exact HB.out | apply below_alloc | apply pw_below_drewN | apply below_drew1) | exact HB.out)))); have n1_ := Aside0.mk (below_step (by repeat (first | (with_reducible first | exact HB.out | apply below_alloc | apply pw_below_drewN | apply below_drew1) | exact HB.out)) hb); clear HB; have HO381 := n0_; have HB := n1_; clear n0_ n1_; (try clear hb); (try clear hb2); (try clear hk); (try clear hi); (try clear ho0)) | ((with_reducible refine gate_callee (f := 13) rfl ?_); refine goesL_ (some 18) rfl rfl Try.func13 (by kernel_rfl) rfl #[.slice A1 l1.length c1] rfl (by (try simp only [List.map_toArray, List.map_cons, List.map_nil]); first | done | rfl | (simp only [List.length_drop, List.length_take]; rfl)) ?_; (with_reducible refine (q3z.calls _ _ l1 t382 _ ?side1 ?side2 A12.out).mono ?_); (case side1 => repeat (first | exact (Kd.C_below HR1.out HB.out) | (with_reducible refine Kd.C_alloc ?_ _) | (with_reducible refine Kd.C_drewN ?_ _) | (with_reducible refine Kd.C_drew ?_))); (case side2 => exact HC1.out); rintro e w45 ⟨v383, rfl, ho0, hb⟩; refine ⟨_, rfl, ?_⟩; have n0_ := Aside0.mk (Kd.R_elder' (by (with_reducible repeat (first | apply Kd.R_alloc | apply Kd.R_drewN | apply Kd.R_drew)); exact HO381.out) (Kd.R_base ho0) hb); have n1_ := Aside0.mk (Kd.R_lower (Kd.R_new' ho0 (Kd.R_lt (by (with_reducible repeat (first | apply Kd.R_alloc | apply Kd.R_drewN | apply Kd.R_drew)); exact HO381.out))) (below_size (by repeat (first | (with_reducible first | exact HB.out | apply below_alloc | apply pw_below_drewN | apply below_drew1) | exact HB.out)))); have n2_ := Aside0.mk (below_step (by repeat (first | (with_reducible first | exact HB.out | apply below_alloc | apply pw_below_drewN | apply below_drew1) | exact HB.out)) hb); clear HO381; clear HB; have HO381 := n0_; have HO384 := n1_; have HB := n2_; clear n0_ n1_ n2_; (try clear hb); (try clear hb2); (try clear hk); (try clear hi); (try clear ho0); obtain ⟨Ao46, co46, eo46⟩ := Kd.R_slice HO381.out; subst eo46; obtain ⟨Ao47, co47, eo47⟩ := Kd.R_slice HO384.out; subst eo47) | ((with_reducible refine gate_callee (f := 19) rfl ?_); refine goesL_ (some 21) rfl rfl Try.func19 (by kernel_rfl) rfl #[.slice Ao46 t379.length co46, .slice Ao47 t382.length co47] rfl (by (try simp only [List.map_toArray, List.map_cons, List.map_nil]); first | done | rfl | (simp only [List.length_drop, List.length_take]; rfl)) ?_; (with_reducible refine (span_Union.calls kj4 _ _ t379 _ _ t382 t385 _ ?side1 ?side2 ?side3 ?side4 A13.out).mono ?_); (case side1 => repeat (first | exact (Kd.R_reads' HO381.out).2.2 | (with_reducible refine Kd.C_alloc ?_ _) | (with_reducible refine Kd.C_drewN ?_ _) | (with_reducible refine Kd.C_drew ?_))); (case side2 => exact (Kd.R_reads' HO381.out).2.1); (case side3 => repeat (first | exact (Kd.R_reads' HO384.out).2.2 | (with_reducible refine Kd.C_alloc ?_ _) | (with_reducible refine Kd.C_drewN ?_ _) | (with_reducible refine Kd.C_drew ?_))); (case side4 => exact (Kd.R_reads' HO384.out).2.1); rintro e w48 ⟨v386, rfl, ho0, hb⟩; refine ⟨_, rfl, ?_⟩; have n0_ := Aside0.mk (Kd.R_elder' (by (with_reducible repeat (first | apply Kd.R_alloc | apply Kd.R_drewN | apply Kd.R_drew)); exact HO381.out) (Kd.R_base ho0) hb); have n1_ := Aside0.mk (Kd.R_elder' (by (with_reducible repeat (first | apply Kd.R_alloc | apply Kd.R_drewN | apply Kd.R_drew)); exact HO384.out) (Kd.R_base ho0) hb); have n2_ := Aside0.mk (Kd.R_lower (Kd.R_new' (Kd.R_new' ho0 (Kd.R_lt (by (with_reducible repeat (first | apply Kd.R_alloc | apply Kd.R_drewN | apply Kd.R_drew)); exact HO381.out))) (Kd.R_lt (by (with_reducible repeat (first | apply Kd.R_alloc | apply Kd.R_drewN | apply Kd.R_drew)); exact HO384.out))) (below_size (by repeat (first | (with_reducible first | exact HB.out | apply below_alloc | apply pw_below_drewN | apply below_drew1) | exact HB.out)))); have n3_ := Aside0.mk (below_step (by repeat (first | (with_reducible first | exact HB.out | apply below_alloc | apply pw_below_drewN | apply below_drew1) | exact HB.out)) hb); clear HO381; clear HO384; clear HB; have HO381 := n0_; have HO384 := n1_; have HO387 := n2_; have HB := n3_; clear n0_ n1_ n2_ n3_; (try clear hb); (try clear hb2); (try clear hk); (try clear hi); (try clear ho0)) | ((with_reducible refine gate_callee (f := 20) rfl ?_); refine goesL_ (some 24) rfl rfl Try.func20 (by kernel_rfl) rfl #[.int .i64 1, .slice A0 l0.length c0, .slice A1 l1.length c1] rfl (by (try simp only [List.map_toArray, List.map_cons, List.map_nil]); first | done | rfl | (simp only [List.length_drop, List.length_take]; rfl)) ?_; (with_reducible refine (q10z.calls kj4 1 (fun k_ => k_ < w.heap.size) _ _ l0 (fun k_ => k_ < w.heap.size) _ _ l1 t388 _ ?side1 ?side2 A14.out).mono ?_); (case side1 => exact Kd.V_mk HC0.out (Kd.F_below (Kd.C_F k33_heap HR0.out) (by repeat (first | (with_reducible first | exact HB.out | apply below_alloc | apply pw_below_drewN | apply below_drew1) | exact HB.out)))); (case side2 => exact Kd.V_mk HC1.out (Kd.F_below (Kd.C_F k33_heap HR1.out) (by repeat (first | (with_reducible first | exact HB.out | apply below_alloc | apply pw_below_drewN | apply below_drew1) | exact HB.out)))); rintro e w49 ⟨v389, rfl, ho0, hb⟩; refine ⟨_, rfl, ?_⟩; have n0_ := Aside0.mk (Kd.R_elder' (by (with_reducible repeat (first | apply Kd.R_alloc | apply Kd.R_drewN | apply Kd.R_drew)); exact HO381.out) (Kd.R_base ho0) hb); have n1_ := Aside0.mk (Kd.R_elder' (by (with_reducible repeat (first | apply Kd.R_alloc | apply Kd.R_drewN | apply Kd.R_drew)); exact HO384.out) (Kd.R_base ho0) hb); have n2_ := Aside0.mk (Kd.R_elder' (by (with_reducible repeat (first | apply Kd.R_alloc | apply Kd.R_drewN | apply Kd.R_drew)); exact HO387.out) (Kd.R_base ho0) hb); have n3_ := Aside0.mk (Kd.R_lower (Kd.R_new' (Kd.R_new' (Kd.R_new' (Kd.R_mono (ok' := fun k_ => True) ho0 (fun _ hk_ => trivial)) (Kd.R_lt (by (with_reducible repeat (first | apply Kd.R_alloc | apply Kd.R_drewN | apply Kd.R_drew)); exact HO381.out))) (Kd.R_lt (by (with_reducible repeat (first | apply Kd.R_alloc | apply Kd.R_drewN | apply Kd.R_drew)); exact HO384.out))) (Kd.R_lt (by (with_reducible repeat (first | apply Kd.R_alloc | apply Kd.R_drewN | apply Kd.R_drew)); exact HO387.out))) (below_size (by repeat (first | (with_reducible first | exact HB.out | apply below_alloc | apply pw_below_drewN | apply below_drew1) | exact HB.out)))); have n4_ := Aside0.mk (below_step (by repeat (first | (with_reducible first | exact HB.out | apply below_alloc | apply pw_below_drewN | apply below_drew1) | exact HB.out)) hb); clear HO381; clear HO384; clear HO387; clear HB; have HO381 := n0_; have HO384 := n1_; have HO387 := n2_; have HO390 := n3_; have HB := n4_; clear n0_ n1_ n2_ n3_ n4_; (try clear hb); (try clear hb2); (try clear hk); (try clear hi); (try clear ho0); obtain ⟨Ao50, co50, eo50⟩ := Kd.R_slice HO387.out; subst eo50; obtain ⟨Ao51, co51, eo51⟩ := Kd.R_slice HO390.out; subst eo51) | ((with_reducible refine gate_callee (f := 10) rfl ?_); refine goesL_ (some 25) rfl rfl Try.func10 (by kernel_rfl) rfl #[.slice Ao50 t385.length co50, .slice Ao51 t388.length co51] rfl (by (try simp only [List.map_toArray, List.map_cons, List.map_nil]); first | done | rfl | (simp only [List.length_drop, List.length_take]; rfl)) ?_; (with_reducible refine (q2z.calls kj4 _ _ t385 _ _ t388 true _ ?side1 ?side2 ?side3 ?side4 A15.out).mono ?_); (case side1 => repeat (first | exact (Kd.R_reads' HO387.out).2.2 | (with_reducible refine Kd.C_alloc ?_ _) | (with_reducible refine Kd.C_drewN ?_ _) | (with_reducible refine Kd.C_drew ?_))); (case side2 => exact (Kd.R_reads' HO387.out).2.1); (case side3 => repeat (first | exact (Kd.R_reads' HO390.out).2.2 | (with_reducible refine Kd.C_alloc ?_ _) | (with_reducible refine Kd.C_drewN ?_ _) | (with_reducible refine Kd.C_drew ?_))); (case side4 => exact (Kd.R_reads' HO390.out).2.1); rintro e w' ⟨rfl, ⟨nd, rfl⟩⟩; refine ⟨_, rfl, ?_⟩) | (go_at_call 18; (with_reducible refine (q4z.calls kj4 _ _ t379 _ _ t382 t392 _ ?side1 ?side2 ?side3 ?side4 A17.out).mono ?_); (case side1 => repeat (first | exact (Kd.R_reads' HO381.out).2.2 | (with_reducible refine Kd.C_alloc ?_ _) | (with_reducible refine Kd.C_drewN ?_ _) | (with_reducible refine Kd.C_drew ?_))); (case side2 => exact (Kd.R_reads' HO381.out).2.1); (case side3 => repeat (first | exact (Kd.R_reads' HO384.out).2.2 | (with_reducible refine Kd.C_alloc ?_ _) | (with_reducible refine Kd.C_drewN ?_ _) | (with_reducible refine Kd.C_drew ?_))); (case side4 => exact (Kd.R_reads' HO384.out).2.1); rintro e w52 ⟨v393, rfl, ho0, hb⟩; have n0_ := Aside0.mk (Kd.R_elder' (by (with_reducible repeat (first | apply Kd.R_alloc | apply Kd.R_drewN | apply Kd.R_drew)); exact HO381.out) (Kd.R_base ho0) hb); have n1_ := Aside0.mk (Kd.R_elder' (by (with_reducible repeat (first | apply Kd.R_alloc | apply Kd.R_drewN | apply Kd.R_drew)); exact HO384.out) (Kd.R_base ho0) hb); have n2_ := Aside0.mk (Kd.R_elder' (by (with_reducible repeat (first | apply Kd.R_alloc | apply Kd.R_drewN | apply Kd.R_drew)); exact HO387.out) (Kd.R_base ho0) hb); have n3_ := Aside0.mk (Kd.R_elder' (by (with_reducible repeat (first | apply Kd.R_alloc | apply Kd.R_drewN | apply Kd.R_drew)); exact HO390.out) (Kd.R_base ho0) hb); have n4_ := Aside0.mk (Kd.R_lower (Kd.R_new' (Kd.R_new' (Kd.R_new' (Kd.R_new' ho0 (Kd.R_lt (by (with_reducible repeat (first | apply Kd.R_alloc | apply Kd.R_drewN | apply Kd.R_drew)); exact HO381.out))) (Kd.R_lt (by (with_reducible repeat (first | apply Kd.R_alloc | apply Kd.R_drewN | apply Kd.R_drew)); exact HO384.out))) (Kd.R_lt (by (with_reducible repeat (first | apply Kd.R_alloc | apply Kd.R_drewN | apply Kd.R_drew)); exact HO387.out))) (Kd.R_lt (by (with_reducible repeat (first | apply Kd.R_alloc | apply Kd.R_drewN | apply Kd.R_drew)); exact HO390.out))) (below_size (by repeat (first | (with_reducible first | exact HB.out | apply below_alloc | apply pw_below_drewN | apply below_drew1) | exact HB.out)))); have n5_ := Aside0.mk (below_step (by repeat (first | (with_reducible first | exact HB.out | apply below_alloc | apply pw_below_drewN | apply below_drew1) | exact HB.out)) hb); clear HO381; clear HO384; clear HO387; clear HO390; clear HB; have HO381 := n0_; have HO384 := n1_; have HO387 := n2_; have HO390 := n3_; have HO394 := n4_; have HB := n5_; clear n0_ n1_ n2_ n3_ n4_ n5_; (try clear hb); (try clear hb2); (try clear hk); (try clear hi); (try clear ho0)) | (go_at_call 20; (with_reducible refine (q10z.calls kj4 2 (fun k_ => k_ < w.heap.size) _ _ l0 (fun k_ => k_ < w.heap.size) _ _ l1 t395 _ ?side1 ?side2 A18.out).mono ?_); (case side1 => exact Kd.V_mk HC0.out (Kd.F_below (Kd.C_F k33_heap HR0.out) (by repeat (first | (with_reducible first | exact HB.out | apply below_alloc | apply pw_below_drewN | apply below_drew1) | exact HB.out)))); (case side2 => exact Kd.V_mk HC1.out (Kd.F_below (Kd.C_F k33_heap HR1.out) (by repeat (first | (with_reducible first | exact HB.out | apply below_alloc | apply pw_below_drewN | apply below_drew1) | exact HB.out)))); rintro e w53 ⟨v396, rfl, ho0, hb⟩; have n0_ := Aside0.mk (Kd.R_elder' (by (with_reducible repeat (first | apply Kd.R_alloc | apply Kd.R_drewN | apply Kd.R_drew)); exact HO381.out) (Kd.R_base ho0) hb); have n1_ := Aside0.mk (Kd.R_elder' (by (with_reducible repeat (first | apply Kd.R_alloc | apply Kd.R_drewN | apply Kd.R_drew)); exact HO384.out) (Kd.R_base ho0) hb); have n2_ := Aside0.mk (Kd.R_elder' (by (with_reducible repeat (first | apply Kd.R_alloc | apply Kd.R_drewN | apply Kd.R_drew)); exact HO387.out) (Kd.R_base ho0) hb); have n3_ := Aside0.mk (Kd.R_elder' (by (with_reducible repeat (first | apply Kd.R_alloc | apply Kd.R_drewN | apply Kd.R_drew)); exact HO390.out) (Kd.R_base ho0) hb); have n4_ := Aside0.mk (Kd.R_elder' (by (with_reducible repeat (first | apply Kd.R_alloc | apply Kd.R_drewN | apply Kd.R_drew)); exact HO394.out) (Kd.R_base ho0) hb); have n5_ := Aside0.mk (Kd.R_lower (Kd.R_new' (Kd.R_new' (Kd.R_new' (Kd.R_new' (Kd.R_new' (Kd.R_mono (ok' := fun k_ => True) ho0 (fun _ hk_ => trivial)) (Kd.R_lt (by (with_reducible repeat (first | apply Kd.R_alloc | apply Kd.R_drewN | apply Kd.R_drew)); exact HO381.out))) (Kd.R_lt (by (with_reducible repeat (first | apply Kd.R_alloc | apply Kd.R_drewN | apply Kd.R_drew)); exact HO384.out))) (Kd.R_lt (by (with_reducible repeat (first | apply Kd.R_alloc | apply Kd.R_drewN | apply Kd.R_drew)); exact HO387.out))) (Kd.R_lt (by (with_reducible repeat (first | apply Kd.R_alloc | apply Kd.R_drewN | apply Kd.R_drew)); exact HO390.out))) (Kd.R_lt (by (with_reducible repeat (first | apply Kd.R_alloc | apply Kd.R_drewN | apply Kd.R_drew)); exact HO394.out))) (below_size (by repeat (first | (with_reducible first | exact HB.out | apply below_alloc | apply pw_below_drewN | apply below_drew1) | exact HB.out)))); have n6_ := Aside0.mk (below_step (by repeat (first | (with_reducible first | exact HB.out | apply below_alloc | apply pw_below_drewN | apply below_drew1) | exact HB.out)) hb); clear HO381; clear HO384; clear HO387; clear HO390; clear HO394; clear HB; have HO381 := n0_; have HO384 := n1_; have HO387 := n2_; have HO390 := n3_; have HO394 := n4_; have HO397 := n5_; have HB := n6_; clear n0_ n1_ n2_ n3_ n4_ n5_ n6_; (try clear hb); (try clear hb2); (try clear hk); (try clear hi); (try clear ho0); obtain ⟨Ao54, co54, eo54⟩ := Kd.R_slice HO394.out; subst eo54; obtain ⟨Ao55, co55, eo55⟩ := Kd.R_slice HO397.out; subst eo55) | (go_at_call 10; (with_reducible refine (q2z.calls kj4 _ _ t392 _ _ t395 true _ ?side1 ?side2 ?side3 ?side4 A19.out).mono ?_); (case side1 => repeat (first | exact (Kd.R_reads' HO394.out).2.2 | (with_reducible refine Kd.C_alloc ?_ _) | (with_reducible refine Kd.C_drewN ?_ _) | (with_reducible refine Kd.C_drew ?_))); (case side2 => exact (Kd.R_reads' HO394.out).2.1); (case side3 => repeat (first | exact (Kd.R_reads' HO397.out).2.2 | (with_reducible refine Kd.C_alloc ?_ _) | (with_reducible refine Kd.C_drewN ?_ _) | (with_reducible refine Kd.C_drew ?_))); (case side4 => exact (Kd.R_reads' HO397.out).2.1); rintro e w' ⟨rfl, ⟨nd, rfl⟩⟩) | (go_at_call 21; (with_reducible refine (q11z.calls kj4 _ _ t379 t399 _ ?side1 ?side2 A21.out).mono ?_); (case side1 => repeat (first | exact (Kd.R_reads' HO381.out).2.2 | (with_reducible refine Kd.C_alloc ?_ _) | (with_reducible refine Kd.C_drewN ?_ _) | (with_reducible refine Kd.C_drew ?_))); (case side2 => exact (Kd.R_reads' HO381.out).2.1); rintro e w56 ⟨v400, rfl, ho0, hb⟩; have n0_ := Aside0.mk (Kd.R_elder' (by (with_reducible repeat (first | apply Kd.R_alloc | apply Kd.R_drewN | apply Kd.R_drew)); exact HO381.out) (Kd.R_base ho0) hb); have n1_ := Aside0.mk (Kd.R_elder' (by (with_reducible repeat (first | apply Kd.R_alloc | apply Kd.R_drewN | apply Kd.R_drew)); exact HO384.out) (Kd.R_base ho0) hb); have n2_ := Aside0.mk (Kd.R_elder' (by (with_reducible repeat (first | apply Kd.R_alloc | apply Kd.R_drewN | apply Kd.R_drew)); exact HO387.out) (Kd.R_base ho0) hb); have n3_ := Aside0.mk (Kd.R_elder' (by (with_reducible repeat (first | apply Kd.R_alloc | apply Kd.R_drewN | apply Kd.R_drew)); exact HO390.out) (Kd.R_base ho0) hb); have n4_ := Aside0.mk (Kd.R_elder' (by (with_reducible repeat (first | apply Kd.R_alloc | apply Kd.R_drewN | apply Kd.R_drew)); exact HO394.out) (Kd.R_base ho0) hb); have n5_ := Aside0.mk (Kd.R_elder' (by (with_reducible repeat (first | apply Kd.R_alloc | apply Kd.R_drewN | apply Kd.R_drew)); exact HO397.out) (Kd.R_base ho0) hb); have n6_ := Aside0.mk (Kd.R_lower (Kd.R_new' (Kd.R_new' (Kd.R_new' (Kd.R_new' (Kd.R_new' (Kd.R_new' ho0 (Kd.R_lt (by (with_reducible repeat (first | apply Kd.R_alloc | apply Kd.R_drewN | apply Kd.R_drew)); exact HO381.out))) (Kd.R_lt (by (with_reducible repeat (first | apply Kd.R_alloc | apply Kd.R_drewN | apply Kd.R_drew)); exact HO384.out))) (Kd.R_lt (by (with_reducible repeat (first | apply Kd.R_alloc | apply Kd.R_drewN | apply Kd.R_drew)); exact HO387.out))) (Kd.R_lt (by (with_reducible repeat (first | apply Kd.R_alloc | apply Kd.R_drewN | apply Kd.R_drew)); exact HO390.out))) (Kd.R_lt (by (with_reducible repeat (first | apply Kd.R_alloc | apply Kd.R_drewN | apply Kd.R_drew)); exact HO394.out))) (Kd.R_lt (by (with_reducible repeat (first | apply Kd.R_alloc | apply Kd.R_drewN | apply Kd.R_drew)); exact HO397.out))) (below_size (by repeat (first | (with_reducible first | exact HB.out | apply below_alloc | apply pw_below_drewN | apply below_drew1) | exact HB.out)))); have n7_ := Aside0.mk (below_step (by repeat (first | (with_reducible first | exact HB.out | apply below_alloc | apply pw_below_drewN | apply below_drew1) | exact HB.out)) hb); clear HO381; clear HO384; clear HO387; clear HO390; clear HO394; clear HO397; clear HB; have HO381 := n0_; have HO384 := n1_; have HO387 := n2_; have HO390 := n3_; have HO394 := n4_; have HO397 := n5_; have HO401 := n6_; have HB := n7_; clear n0_ n1_ n2_ n3_ n4_ n5_ n6_ n7_; (try clear hb); (try clear hb2); (try clear hk); (try clear hi); (try clear ho0)) | (go_at_call 20; (refine (q10z.calls kj4 3 (fun k_ => k_ < w.heap.size) _ _ l0 (fun k_ => False) _ _ ([] : List (S33)) t402 _ ?side1 ?side2 A22.out).mono ?_); (case side1 => exact Kd.V_mk HC0.out (Kd.F_below (Kd.C_F k33_heap HR0.out) (by repeat (first | (with_reducible first | exact HB.out | apply below_alloc | apply pw_below_drewN | apply below_drew1) | exact HB.out)))); (case side2 => exact Kd.V_nil _ _ _ _ _); rintro e w57 ⟨v403, rfl, ho0, hb⟩; have n0_ := Aside0.mk (Kd.R_elder' (by (with_reducible repeat (first | apply Kd.R_alloc | apply Kd.R_drewN | apply Kd.R_drew)); exact HO381.out) (Kd.R_base ho0) hb); have n1_ := Aside0.mk (Kd.R_elder' (by (with_reducible repeat (first | apply Kd.R_alloc | apply Kd.R_drewN | apply Kd.R_drew)); exact HO384.out) (Kd.R_base ho0) hb); have n2_ := Aside0.mk (Kd.R_elder' (by (with_reducible repeat (first | apply Kd.R_alloc | apply Kd.R_drewN | apply Kd.R_drew)); exact HO387.out) (Kd.R_base ho0) hb); have n3_ := Aside0.mk (Kd.R_elder' (by (with_reducible repeat (first | apply Kd.R_alloc | apply Kd.R_drewN | apply Kd.R_drew)); exact HO390.out) (Kd.R_base ho0) hb); have n4_ := Aside0.mk (Kd.R_elder' (by (with_reducible repeat (first | apply Kd.R_alloc | apply Kd.R_drewN | apply Kd.R_drew)); exact HO394.out) (Kd.R_base ho0) hb); have n5_ := Aside0.mk (Kd.R_elder' (by (with_reducible repeat (first | apply Kd.R_alloc | apply Kd.R_drewN | apply Kd.R_drew)); exact HO397.out) (Kd.R_base ho0) hb); have n6_ := Aside0.mk (Kd.R_elder' (by (with_reducible repeat (first | apply Kd.R_alloc | apply Kd.R_drewN | apply Kd.R_drew)); exact HO401.out) (Kd.R_base ho0) hb); have n7_ := Aside0.mk (Kd.R_lower (Kd.R_new' (Kd.R_new' (Kd.R_new' (Kd.R_new' (Kd.R_new' (Kd.R_new' (Kd.R_new' (Kd.R_mono (ok' := fun k_ => True) ho0 (fun _ hk_ => trivial)) (Kd.R_lt (by (with_reducible repeat (first | apply Kd.R_alloc | apply Kd.R_drewN | apply Kd.R_drew)); exact HO381.out))) (Kd.R_lt (by (with_reducible repeat (first | apply Kd.R_alloc | apply Kd.R_drewN | apply Kd.R_drew)); exact HO384.out))) (Kd.R_lt (by (with_reducible repeat (first | apply Kd.R_alloc | apply Kd.R_drewN | apply Kd.R_drew)); exact HO387.out))) (Kd.R_lt (by (with_reducible repeat (first | apply Kd.R_alloc | apply Kd.R_drewN | apply Kd.R_drew)); exact HO390.out))) (Kd.R_lt (by (with_reducible repeat (first | apply Kd.R_alloc | apply Kd.R_drewN | apply Kd.R_drew)); exact HO394.out))) (Kd.R_lt (by (with_reducible repeat (first | apply Kd.R_alloc | apply Kd.R_drewN | apply Kd.R_drew)); exact HO397.out))) (Kd.R_lt (by (with_reducible repeat (first | apply Kd.R_alloc | apply Kd.R_drewN | apply Kd.R_drew)); exact HO401.out))) (below_size (by repeat (first | (with_reducible first | exact HB.out | apply below_alloc | apply pw_below_drewN | apply below_drew1) | exact HB.out)))); have n8_ := Aside0.mk (below_step (by repeat (first | (with_reducible first | exact HB.out | apply below_alloc | apply pw_below_drewN | apply below_drew1) | exact HB.out)) hb); clear HO381; clear HO384; clear HO387; clear HO390; clear HO394; clear HO397; clear HO401; clear HB; have HO381 := n0_; have HO384 := n1_; have HO387 := n2_; have HO390 := n3_; have HO394 := n4_; have HO397 := n5_; have HO401 := n6_; have HO404 := n7_; have HB := n8_; clear n0_ n1_ n2_ n3_ n4_ n5_ n6_ n7_ n8_; (try clear hb); (try clear hb2); (try clear hk); (try clear hi); (try clear ho0); obtain ⟨Ao58, co58, eo58⟩ := Kd.R_slice HO401.out; subst eo58; obtain ⟨Ao59, co59, eo59⟩ := Kd.R_slice HO404.out; subst eo59) | (go_at_call 10; (with_reducible refine (q2z.calls kj4 _ _ t399 _ _ t402 true _ ?side1 ?side2 ?side3 ?side4 A23.out).mono ?_); (case side1 => repeat (first | exact (Kd.R_reads' HO401.out).2.2 | (with_reducible refine Kd.C_alloc ?_ _) | (with_reducible refine Kd.C_drewN ?_ _) | (with_reducible refine Kd.C_drew ?_))); (case side2 => exact (Kd.R_reads' HO401.out).2.1); (case side3 => repeat (first | exact (Kd.R_reads' HO404.out).2.2 | (with_reducible refine Kd.C_alloc ?_ _) | (with_reducible refine Kd.C_drewN ?_ _) | (with_reducible refine Kd.C_drew ?_))); (case side4 => exact (Kd.R_reads' HO404.out).2.1); rintro e w' ⟨rfl, ⟨nd, rfl⟩⟩) | (go_at_call 10; (with_reducible refine (q2z.calls kj4 _ _ t379 _ _ l0 false _ ?side1 ?side2 ?side3 ?side4 A25.out).mono ?_); (case side1 => repeat (first | exact (Kd.R_reads' HO381.out).2.2 | (with_reducible refine Kd.C_alloc ?_ _) | (with_reducible refine Kd.C_drewN ?_ _) | (with_reducible refine Kd.C_drew ?_))); (case side2 => exact (Kd.R_reads' HO381.out).2.1); (case side3 => repeat (first | exact (Kd.C_below HR0.out (by repeat (first | (with_reducible first | exact HB.out | apply below_alloc | apply pw_below_drewN | apply below_drew1) | exact HB.out))) | (with_reducible refine Kd.C_alloc ?_ _) | (with_reducible refine Kd.C_drewN ?_ _) | (with_reducible refine Kd.C_drew ?_))); (case side4 => exact HC0.out); rintro e w' ⟨rfl, ⟨nd, rfl⟩⟩))
         go_ret
         exact ⟨by first | rfl | (simp [errW_none, errW_some] <;> rfl) | (simp [*, errW_none, errW_some] <;> rfl), by repeat (first | (with_reducible first | exact HB.out | apply below_alloc | apply pw_below_drewN | apply below_drew1) | exact HB.out)⟩
       ·
        replace c24 := Bool.eq_false_iff.mpr c24
        subst c24
        have H1 : (some false) = some r := by rw [if_neg (show ¬ (false = true) by decide)] at H; exact H
        clear H
        have H := H1
        clear H1
        obtain rfl := Option.some.inj H
        go_wp2_with (first | ((with_reducible refine gate_callee (f := 13) rfl ?_); refine goesL_ (some 16) rfl rfl Try.func13 (by kernel_rfl) rfl #[.slice A0 l0.length c0] rfl (by (try simp only [List.map_toArray, List.map_cons, List.map_nil]); first | done | rfl | (simp only [List.length_drop, List.length_take]; rfl)) ?_; (with_reducible refine (q3z.calls _ _ l0 t379 _ ?side1 ?side2 A11.out).mono ?_); (case side1 => repeat (first | exact (Kd.C_below HR0.out HB.out) | (with_reducible refine Kd.C_alloc ?_ _) | (with_reducible refine Kd.C_drewN ?_ _) | (with_reducible refine Kd.C_drew ?_))); (case side2 => exact HC0.out); rintro e w60 ⟨v380, rfl, ho0, hb⟩; refine ⟨_, rfl, ?_⟩; have n0_ := Aside0.mk (Kd.R_lower ho0 (below_size (by repeat (first | (with_reducible first | exact HB.out | apply below_alloc | apply pw_below_drewN | apply below_drew1) | exact HB.out)))); have n1_ := Aside0.mk (below_step (by repeat (first | (with_reducible first | exact HB.out | apply below_alloc | apply pw_below_drewN | apply below_drew1) | exact HB.out)) hb); clear HB; have HO381 := n0_; have HB := n1_; clear n0_ n1_; (try clear hb); (try clear hb2); (try clear hk); (try clear hi); (try clear ho0)) | ((with_reducible refine gate_callee (f := 13) rfl ?_); refine goesL_ (some 18) rfl rfl Try.func13 (by kernel_rfl) rfl #[.slice A1 l1.length c1] rfl (by (try simp only [List.map_toArray, List.map_cons, List.map_nil]); first | done | rfl | (simp only [List.length_drop, List.length_take]; rfl)) ?_; (with_reducible refine (q3z.calls _ _ l1 t382 _ ?side1 ?side2 A12.out).mono ?_); (case side1 => repeat (first | exact (Kd.C_below HR1.out HB.out) | (with_reducible refine Kd.C_alloc ?_ _) | (with_reducible refine Kd.C_drewN ?_ _) | (with_reducible refine Kd.C_drew ?_))); (case side2 => exact HC1.out); rintro e w61 ⟨v383, rfl, ho0, hb⟩; refine ⟨_, rfl, ?_⟩; have n0_ := Aside0.mk (Kd.R_elder' (by (with_reducible repeat (first | apply Kd.R_alloc | apply Kd.R_drewN | apply Kd.R_drew)); exact HO381.out) (Kd.R_base ho0) hb); have n1_ := Aside0.mk (Kd.R_lower (Kd.R_new' ho0 (Kd.R_lt (by (with_reducible repeat (first | apply Kd.R_alloc | apply Kd.R_drewN | apply Kd.R_drew)); exact HO381.out))) (below_size (by repeat (first | (with_reducible first | exact HB.out | apply below_alloc | apply pw_below_drewN | apply below_drew1) | exact HB.out)))); have n2_ := Aside0.mk (below_step (by repeat (first | (with_reducible first | exact HB.out | apply below_alloc | apply pw_below_drewN | apply below_drew1) | exact HB.out)) hb); clear HO381; clear HB; have HO381 := n0_; have HO384 := n1_; have HB := n2_; clear n0_ n1_ n2_; (try clear hb); (try clear hb2); (try clear hk); (try clear hi); (try clear ho0); obtain ⟨Ao62, co62, eo62⟩ := Kd.R_slice HO381.out; subst eo62; obtain ⟨Ao63, co63, eo63⟩ := Kd.R_slice HO384.out; subst eo63) | ((with_reducible refine gate_callee (f := 19) rfl ?_); refine goesL_ (some 21) rfl rfl Try.func19 (by kernel_rfl) rfl #[.slice Ao62 t379.length co62, .slice Ao63 t382.length co63] rfl (by (try simp only [List.map_toArray, List.map_cons, List.map_nil]); first | done | rfl | (simp only [List.length_drop, List.length_take]; rfl)) ?_; (with_reducible refine (span_Union.calls kj4 _ _ t379 _ _ t382 t385 _ ?side1 ?side2 ?side3 ?side4 A13.out).mono ?_); (case side1 => repeat (first | exact (Kd.R_reads' HO381.out).2.2 | (with_reducible refine Kd.C_alloc ?_ _) | (with_reducible refine Kd.C_drewN ?_ _) | (with_reducible refine Kd.C_drew ?_))); (case side2 => exact (Kd.R_reads' HO381.out).2.1); (case side3 => repeat (first | exact (Kd.R_reads' HO384.out).2.2 | (with_reducible refine Kd.C_alloc ?_ _) | (with_reducible refine Kd.C_drewN ?_ _) | (with_reducible refine Kd.C_drew ?_))); (case side4 => exact (Kd.R_reads' HO384.out).2.1); rintro e w64 ⟨v386, rfl, ho0, hb⟩; refine ⟨_, rfl, ?_⟩; have n0_ := Aside0.mk (Kd.R_elder' (by (with_reducible repeat (first | apply Kd.R_alloc | apply Kd.R_drewN | apply Kd.R_drew)); exact HO381.out) (Kd.R_base ho0) hb); have n1_ := Aside0.mk (Kd.R_elder' (by (with_reducible repeat (first | apply Kd.R_alloc | apply Kd.R_drewN | apply Kd.R_drew)); exact HO384.out) (Kd.R_base ho0) hb); have n2_ := Aside0.mk (Kd.R_lower (Kd.R_new' (Kd.R_new' ho0 (Kd.R_lt (by (with_reducible repeat (first | apply Kd.R_alloc | apply Kd.R_drewN | apply Kd.R_drew)); exact HO381.out))) (Kd.R_lt (by (with_reducible repeat (first | apply Kd.R_alloc | apply Kd.R_drewN | apply Kd.R_drew)); exact HO384.out))) (below_size (by repeat (first | (with_reducible first | exact HB.out | apply below_alloc | apply pw_below_drewN | apply below_drew1) | exact HB.out)))); have n3_ := Aside0.mk (below_step (by repeat (first | (with_reducible first | exact HB.out | apply below_alloc | apply pw_below_drewN | apply below_drew1) | exact HB.out)) hb); clear HO381; clear HO384; clear HB; have HO381 := n0_; have HO384 := n1_; have HO387 := n2_; have HB := n3_; clear n0_ n1_ n2_ n3_; (try clear hb); (try clear hb2); (try clear hk); (try clear hi); (try clear ho0)) | ((with_reducible refine gate_callee (f := 20) rfl ?_); refine goesL_ (some 24) rfl rfl Try.func20 (by kernel_rfl) rfl #[.int .i64 1, .slice A0 l0.length c0, .slice A1 l1.length c1] rfl (by (try simp only [List.map_toArray, List.map_cons, List.map_nil]); first | done | rfl | (simp only [List.length_drop, List.length_take]; rfl)) ?_; (with_reducible refine (q10z.calls kj4 1 (fun k_ => k_ < w.heap.size) _ _ l0 (fun k_ => k_ < w.heap.size) _ _ l1 t388 _ ?side1 ?side2 A14.out).mono ?_); (case side1 => exact Kd.V_mk HC0.out (Kd.F_below (Kd.C_F k33_heap HR0.out) (by repeat (first | (with_reducible first | exact HB.out | apply below_alloc | apply pw_below_drewN | apply below_drew1) | exact HB.out)))); (case side2 => exact Kd.V_mk HC1.out (Kd.F_below (Kd.C_F k33_heap HR1.out) (by repeat (first | (with_reducible first | exact HB.out | apply below_alloc | apply pw_below_drewN | apply below_drew1) | exact HB.out)))); rintro e w65 ⟨v389, rfl, ho0, hb⟩; refine ⟨_, rfl, ?_⟩; have n0_ := Aside0.mk (Kd.R_elder' (by (with_reducible repeat (first | apply Kd.R_alloc | apply Kd.R_drewN | apply Kd.R_drew)); exact HO381.out) (Kd.R_base ho0) hb); have n1_ := Aside0.mk (Kd.R_elder' (by (with_reducible repeat (first | apply Kd.R_alloc | apply Kd.R_drewN | apply Kd.R_drew)); exact HO384.out) (Kd.R_base ho0) hb); have n2_ := Aside0.mk (Kd.R_elder' (by (with_reducible repeat (first | apply Kd.R_alloc | apply Kd.R_drewN | apply Kd.R_drew)); exact HO387.out) (Kd.R_base ho0) hb); have n3_ := Aside0.mk (Kd.R_lower (Kd.R_new' (Kd.R_new' (Kd.R_new' (Kd.R_mono (ok' := fun k_ => True) ho0 (fun _ hk_ => trivial)) (Kd.R_lt (by (with_reducible repeat (first | apply Kd.R_alloc | apply Kd.R_drewN | apply Kd.R_drew)); exact HO381.out))) (Kd.R_lt (by (with_reducible repeat (first | apply Kd.R_alloc | apply Kd.R_drewN | apply Kd.R_drew)); exact HO384.out))) (Kd.R_lt (by (with_reducible repeat (first | apply Kd.R_alloc | apply Kd.R_drewN | apply Kd.R_drew)); exact HO387.out))) (below_size (by repeat (first | (with_reducible first | exact HB.out | apply below_alloc | apply pw_below_drewN | apply below_drew1) | exact HB.out)))); have n4_ := Aside0.mk (below_step (by repeat (first | (with_reducible first | exact HB.out | apply below_alloc | apply pw_below_drewN | apply below_drew1) | exact HB.out)) hb); clear HO381; clear HO384; clear HO387; clear HB; have HO381 := n0_; have HO384 := n1_; have HO387 := n2_; have HO390 := n3_; have HB := n4_; clear n0_ n1_ n2_ n3_ n4_; (try clear hb); (try clear hb2); (try clear hk); (try clear hi); (try clear ho0); obtain ⟨Ao66, co66, eo66⟩ := Kd.R_slice HO387.out; subst eo66; obtain ⟨Ao67, co67, eo67⟩ := Kd.R_slice HO390.out; subst eo67) | ((with_reducible refine gate_callee (f := 10) rfl ?_); refine goesL_ (some 25) rfl rfl Try.func10 (by kernel_rfl) rfl #[.slice Ao66 t385.length co66, .slice Ao67 t388.length co67] rfl (by (try simp only [List.map_toArray, List.map_cons, List.map_nil]); first | done | rfl | (simp only [List.length_drop, List.length_take]; rfl)) ?_; (with_reducible refine (q2z.calls kj4 _ _ t385 _ _ t388 true _ ?side1 ?side2 ?side3 ?side4 A15.out).mono ?_); (case side1 => repeat (first | exact (Kd.R_reads' HO387.out).2.2 | (with_reducible refine Kd.C_alloc ?_ _) | (with_reducible refine Kd.C_drewN ?_ _) | (with_reducible refine Kd.C_drew ?_))); (case side2 => exact (Kd.R_reads' HO387.out).2.1); (case side3 => repeat (first | exact (Kd.R_reads' HO390.out).2.2 | (with_reducible refine Kd.C_alloc ?_ _) | (with_reducible refine Kd.C_drewN ?_ _) | (with_reducible refine Kd.C_drew ?_))); (case side4 => exact (Kd.R_reads' HO390.out).2.1); rintro e w' ⟨rfl, ⟨nd, rfl⟩⟩; refine ⟨_, rfl, ?_⟩) | (go_at_call 18; (with_reducible refine (q4z.calls kj4 _ _ t379 _ _ t382 t392 _ ?side1 ?side2 ?side3 ?side4 A17.out).mono ?_); (case side1 => repeat (first | exact (Kd.R_reads' HO381.out).2.2 | (with_reducible refine Kd.C_alloc ?_ _) | (with_reducible refine Kd.C_drewN ?_ _) | (with_reducible refine Kd.C_drew ?_))); (case side2 => exact (Kd.R_reads' HO381.out).2.1); (case side3 => repeat (first | exact (Kd.R_reads' HO384.out).2.2 | (with_reducible refine Kd.C_alloc ?_ _) | (with_reducible refine Kd.C_drewN ?_ _) | (with_reducible refine Kd.C_drew ?_))); (case side4 => exact (Kd.R_reads' HO384.out).2.1); rintro e w68 ⟨v393, rfl, ho0, hb⟩; have n0_ := Aside0.mk (Kd.R_elder' (by (with_reducible repeat (first | apply Kd.R_alloc | apply Kd.R_drewN | apply Kd.R_drew)); exact HO381.out) (Kd.R_base ho0) hb); have n1_ := Aside0.mk (Kd.R_elder' (by (with_reducible repeat (first | apply Kd.R_alloc | apply Kd.R_drewN | apply Kd.R_drew)); exact HO384.out) (Kd.R_base ho0) hb); have n2_ := Aside0.mk (Kd.R_elder' (by (with_reducible repeat (first | apply Kd.R_alloc | apply Kd.R_drewN | apply Kd.R_drew)); exact HO387.out) (Kd.R_base ho0) hb); have n3_ := Aside0.mk (Kd.R_elder' (by (with_reducible repeat (first | apply Kd.R_alloc | apply Kd.R_drewN | apply Kd.R_drew)); exact HO390.out) (Kd.R_base ho0) hb); have n4_ := Aside0.mk (Kd.R_lower (Kd.R_new' (Kd.R_new' (Kd.R_new' (Kd.R_new' ho0 (Kd.R_lt (by (with_reducible repeat (first | apply Kd.R_alloc | apply Kd.R_drewN | apply Kd.R_drew)); exact HO381.out))) (Kd.R_lt (by (with_reducible repeat (first | apply Kd.R_alloc | apply Kd.R_drewN | apply Kd.R_drew)); exact HO384.out))) (Kd.R_lt (by (with_reducible repeat (first | apply Kd.R_alloc | apply Kd.R_drewN | apply Kd.R_drew)); exact HO387.out))) (Kd.R_lt (by (with_reducible repeat (first | apply Kd.R_alloc | apply Kd.R_drewN | apply Kd.R_drew)); exact HO390.out))) (below_size (by repeat (first | (with_reducible first | exact HB.out | apply below_alloc | apply pw_below_drewN | apply below_drew1) | exact HB.out)))); have n5_ := Aside0.mk (below_step (by repeat (first | (with_reducible first | exact HB.out | apply below_alloc | apply pw_below_drewN | apply below_drew1) | exact HB.out)) hb); clear HO381; clear HO384; clear HO387; clear HO390; clear HB; have HO381 := n0_; have HO384 := n1_; have HO387 := n2_; have HO390 := n3_; have HO394 := n4_; have HB := n5_; clear n0_ n1_ n2_ n3_ n4_ n5_; (try clear hb); (try clear hb2); (try clear hk); (try clear hi); (try clear ho0)) | (go_at_call 20; (with_reducible refine (q10z.calls kj4 2 (fun k_ => k_ < w.heap.size) _ _ l0 (fun k_ => k_ < w.heap.size) _ _ l1 t395 _ ?side1 ?side2 A18.out).mono ?_); (case side1 => exact Kd.V_mk HC0.out (Kd.F_below (Kd.C_F k33_heap HR0.out) (by repeat (first | (with_reducible first | exact HB.out | apply below_alloc | apply pw_below_drewN | apply below_drew1) | exact HB.out)))); (case side2 => exact Kd.V_mk HC1.out (Kd.F_below (Kd.C_F k33_heap HR1.out) (by repeat (first | (with_reducible first | exact HB.out | apply below_alloc | apply pw_below_drewN | apply below_drew1) | exact HB.out)))); rintro e w69 ⟨v396, rfl, ho0, hb⟩; have n0_ := Aside0.mk (Kd.R_elder' (by (with_reducible repeat (first | apply Kd.R_alloc | apply Kd.R_drewN | apply Kd.R_drew)); exact HO381.out) (Kd.R_base ho0) hb); have n1_ := Aside0.mk (Kd.R_elder' (by (with_reducible repeat (first | apply Kd.R_alloc | apply Kd.R_drewN | apply Kd.R_drew)); exact HO384.out) (Kd.R_base ho0) hb); have n2_ := Aside0.mk (Kd.R_elder' (by (with_reducible repeat (first | apply Kd.R_alloc | apply Kd.R_drewN | apply Kd.R_drew)); exact HO387.out) (Kd.R_base ho0) hb); have n3_ := Aside0.mk (Kd.R_elder' (by (with_reducible repeat (first | apply Kd.R_alloc | apply Kd.R_drewN | apply Kd.R_drew)); exact HO390.out) (Kd.R_base ho0) hb); have n4_ := Aside0.mk (Kd.R_elder' (by (with_reducible repeat (first | apply Kd.R_alloc | apply Kd.R_drewN | apply Kd.R_drew)); exact HO394.out) (Kd.R_base ho0) hb); have n5_ := Aside0.mk (Kd.R_lower (Kd.R_new' (Kd.R_new' (Kd.R_new' (Kd.R_new' (Kd.R_new' (Kd.R_mono (ok' := fun k_ => True) ho0 (fun _ hk_ => trivial)) (Kd.R_lt (by (with_reducible repeat (first | apply Kd.R_alloc | apply Kd.R_drewN | apply Kd.R_drew)); exact HO381.out))) (Kd.R_lt (by (with_reducible repeat (first | apply Kd.R_alloc | apply Kd.R_drewN | apply Kd.R_drew)); exact HO384.out))) (Kd.R_lt (by (with_reducible repeat (first | apply Kd.R_alloc | apply Kd.R_drewN | apply Kd.R_drew)); exact HO387.out))) (Kd.R_lt (by (with_reducible repeat (first | apply Kd.R_alloc | apply Kd.R_drewN | apply Kd.R_drew)); exact HO390.out))) (Kd.R_lt (by (with_reducible repeat (first | apply Kd.R_alloc | apply Kd.R_drewN | apply Kd.R_drew)); exact HO394.out))) (below_size (by repeat (first | (with_reducible first | exact HB.out | apply below_alloc | apply pw_below_drewN | apply below_drew1) | exact HB.out)))); have n6_ := Aside0.mk (below_step (by repeat (first | (with_reducible first | exact HB.out | apply below_alloc | apply pw_below_drewN | apply below_drew1) | exact HB.out)) hb); clear HO381; clear HO384; clear HO387; clear HO390; clear HO394; clear HB; have HO381 := n0_; have HO384 := n1_; have HO387 := n2_; have HO390 := n3_; have HO394 := n4_; have HO397 := n5_; have HB := n6_; clear n0_ n1_ n2_ n3_ n4_ n5_ n6_; (try clear hb); (try clear hb2); (try clear hk); (try clear hi); (try clear ho0); obtain ⟨Ao70, co70, eo70⟩ := Kd.R_slice HO394.out; subst eo70; obtain ⟨Ao71, co71, eo71⟩ := Kd.R_slice HO397.out; subst eo71) | (go_at_call 10; (with_reducible refine (q2z.calls kj4 _ _ t392 _ _ t395 true _ ?side1 ?side2 ?side3 ?side4 A19.out).mono ?_); (case side1 => repeat (first | exact (Kd.R_reads' HO394.out).2.2 | (with_reducible refine Kd.C_alloc ?_ _) | (with_reducible refine Kd.C_drewN ?_ _) | (with_reducible refine Kd.C_drew ?_))); (case side2 => exact (Kd.R_reads' HO394.out).2.1); (case side3 => repeat (first | exact (Kd.R_reads' HO397.out).2.2 | (with_reducible refine Kd.C_alloc ?_ _) | (with_reducible refine Kd.C_drewN ?_ _) | (with_reducible refine Kd.C_drew ?_))); (case side4 => exact (Kd.R_reads' HO397.out).2.1); rintro e w' ⟨rfl, ⟨nd, rfl⟩⟩) | (go_at_call 21; (with_reducible refine (q11z.calls kj4 _ _ t379 t399 _ ?side1 ?side2 A21.out).mono ?_); (case side1 => repeat (first | exact (Kd.R_reads' HO381.out).2.2 | (with_reducible refine Kd.C_alloc ?_ _) | (with_reducible refine Kd.C_drewN ?_ _) | (with_reducible refine Kd.C_drew ?_))); (case side2 => exact (Kd.R_reads' HO381.out).2.1); rintro e w72 ⟨v400, rfl, ho0, hb⟩; have n0_ := Aside0.mk (Kd.R_elder' (by (with_reducible repeat (first | apply Kd.R_alloc | apply Kd.R_drewN | apply Kd.R_drew)); exact HO381.out) (Kd.R_base ho0) hb); have n1_ := Aside0.mk (Kd.R_elder' (by (with_reducible repeat (first | apply Kd.R_alloc | apply Kd.R_drewN | apply Kd.R_drew)); exact HO384.out) (Kd.R_base ho0) hb); have n2_ := Aside0.mk (Kd.R_elder' (by (with_reducible repeat (first | apply Kd.R_alloc | apply Kd.R_drewN | apply Kd.R_drew)); exact HO387.out) (Kd.R_base ho0) hb); have n3_ := Aside0.mk (Kd.R_elder' (by (with_reducible repeat (first | apply Kd.R_alloc | apply Kd.R_drewN | apply Kd.R_drew)); exact HO390.out) (Kd.R_base ho0) hb); have n4_ := Aside0.mk (Kd.R_elder' (by (with_reducible repeat (first | apply Kd.R_alloc | apply Kd.R_drewN | apply Kd.R_drew)); exact HO394.out) (Kd.R_base ho0) hb); have n5_ := Aside0.mk (Kd.R_elder' (by (with_reducible repeat (first | apply Kd.R_alloc | apply Kd.R_drewN | apply Kd.R_drew)); exact HO397.out) (Kd.R_base ho0) hb); have n6_ := Aside0.mk (Kd.R_lower (Kd.R_new' (Kd.R_new' (Kd.R_new' (Kd.R_new' (Kd.R_new' (Kd.R_new' ho0 (Kd.R_lt (by (with_reducible repeat (first | apply Kd.R_alloc | apply Kd.R_drewN | apply Kd.R_drew)); exact HO381.out))) (Kd.R_lt (by (with_reducible repeat (first | apply Kd.R_alloc | apply Kd.R_drewN | apply Kd.R_drew)); exact HO384.out))) (Kd.R_lt (by (with_reducible repeat (first | apply Kd.R_alloc | apply Kd.R_drewN | apply Kd.R_drew)); exact HO387.out))) (Kd.R_lt (by (with_reducible repeat (first | apply Kd.R_alloc | apply Kd.R_drewN | apply Kd.R_drew)); exact HO390.out))) (Kd.R_lt (by (with_reducible repeat (first | apply Kd.R_alloc | apply Kd.R_drewN | apply Kd.R_drew)); exact HO394.out))) (Kd.R_lt (by (with_reducible repeat (first | apply Kd.R_alloc | apply Kd.R_drewN | apply Kd.R_drew)); exact HO397.out))) (below_size (by repeat (first | (with_reducible first | exact HB.out | apply below_alloc | apply pw_below_drewN | apply below_drew1) | exact HB.out)))); have n7_ := Aside0.mk (below_step (by repeat (first | (with_reducible first | exact HB.out | apply below_alloc | apply pw_below_drewN | apply below_drew1) | exact HB.out)) hb); clear HO381; clear HO384; clear HO387; clear HO390; clear HO394; clear HO397; clear HB; have HO381 := n0_; have HO384 := n1_; have HO387 := n2_; have HO390 := n3_; have HO394 := n4_; have HO397 := n5_; have HO401 := n6_; have HB := n7_; clear n0_ n1_ n2_ n3_ n4_ n5_ n6_ n7_; (try clear hb); (try clear hb2); (try clear hk); (try clear hi); (try clear ho0)) | (go_at_call 20; (refine (q10z.calls kj4 3 (fun k_ => k_ < w.heap.size) _ _ l0 (fun k_ => False) _ _ ([] : List (S33)) t402 _ ?side1 ?side2 A22.out).mono ?_); (case side1 => exact Kd.V_mk HC0.out (Kd.F_below (Kd.C_F k33_heap HR0.out) (by repeat (first | (with_reducible first | exact HB.out | apply below_alloc | apply pw_below_drewN | apply below_drew1) | exact HB.out)))); (case side2 => exact Kd.V_nil _ _ _ _ _); rintro e w73 ⟨v403, rfl, ho0, hb⟩; have n0_ := Aside0.mk (Kd.R_elder' (by (with_reducible repeat (first | apply Kd.R_alloc | apply Kd.R_drewN | apply Kd.R_drew)); exact HO381.out) (Kd.R_base ho0) hb); have n1_ := Aside0.mk (Kd.R_elder' (by (with_reducible repeat (first | apply Kd.R_alloc | apply Kd.R_drewN | apply Kd.R_drew)); exact HO384.out) (Kd.R_base ho0) hb); have n2_ := Aside0.mk (Kd.R_elder' (by (with_reducible repeat (first | apply Kd.R_alloc | apply Kd.R_drewN | apply Kd.R_drew)); exact HO387.out) (Kd.R_base ho0) hb); have n3_ := Aside0.mk (Kd.R_elder' (by (with_reducible repeat (first | apply Kd.R_alloc | apply Kd.R_drewN | apply Kd.R_drew)); exact HO390.out) (Kd.R_base ho0) hb); have n4_ := Aside0.mk (Kd.R_elder' (by (with_reducible repeat (first | apply Kd.R_alloc | apply Kd.R_drewN | apply Kd.R_drew)); exact HO394.out) (Kd.R_base ho0) hb); have n5_ := Aside0.mk (Kd.R_elder' (by (with_reducible repeat (first | apply Kd.R_alloc | apply Kd.R_drewN | apply Kd.R_drew)); exact HO397.out) (Kd.R_base ho0) hb); have n6_ := Aside0.mk (Kd.R_elder' (by (with_reducible repeat (first | apply Kd.R_alloc | apply Kd.R_drewN | apply Kd.R_drew)); exact HO401.out) (Kd.R_base ho0) hb); have n7_ := Aside0.mk (Kd.R_lower (Kd.R_new' (Kd.R_new' (Kd.R_new' (Kd.R_new' (Kd.R_new' (Kd.R_new' (Kd.R_new' (Kd.R_mono (ok' := fun k_ => True) ho0 (fun _ hk_ => trivial)) (Kd.R_lt (by (with_reducible repeat (first | apply Kd.R_alloc | apply Kd.R_drewN | apply Kd.R_drew)); exact HO381.out))) (Kd.R_lt (by (with_reducible repeat (first | apply Kd.R_alloc | apply Kd.R_drewN | apply Kd.R_drew)); exact HO384.out))) (Kd.R_lt (by (with_reducible repeat (first | apply Kd.R_alloc | apply Kd.R_drewN | apply Kd.R_drew)); exact HO387.out))) (Kd.R_lt (by (with_reducible repeat (first | apply Kd.R_alloc | apply Kd.R_drewN | apply Kd.R_drew)); exact HO390.out))) (Kd.R_lt (by (with_reducible repeat (first | apply Kd.R_alloc | apply Kd.R_drewN | apply Kd.R_drew)); exact HO394.out))) (Kd.R_lt (by (with_reducible repeat (first | apply Kd.R_alloc | apply Kd.R_drewN | apply Kd.R_drew)); exact HO397.out))) (Kd.R_lt (by (with_reducible repeat (first | apply Kd.R_alloc | apply Kd.R_drewN | apply Kd.R_drew)); exact HO401.out))) (below_size (by repeat (first | (with_reducible first | exact HB.out | apply below_alloc | apply pw_below_drewN | apply below_drew1) | exact HB.out)))); have n8_ := Aside0.mk (below_step (by repeat (first | (with_reducible first | exact HB.out | apply below_alloc | apply pw_below_drewN | apply below_drew1) | exact HB.out)) hb); clear HO381; clear HO384; clear HO387; clear HO390; clear HO394; clear HO397; clear HO401; clear HB; have HO381 := n0_; have HO384 := n1_; have HO387 := n2_; have HO390 := n3_; have HO394 := n4_; have HO397 := n5_; have HO401 := n6_; have HO404 := n7_; have HB := n8_; clear n0_ n1_ n2_ n3_ n4_ n5_ n6_ n7_ n8_; (try clear hb); (try clear hb2); (try clear hk); (try clear hi); (try clear ho0); obtain ⟨Ao74, co74, eo74⟩ := Kd.R_slice HO401.out; subst eo74; obtain ⟨Ao75, co75, eo75⟩ := Kd.R_slice HO404.out; subst eo75) | (go_at_call 10; (with_reducible refine (q2z.calls kj4 _ _ t399 _ _ t402 false _ ?side1 ?side2 ?side3 ?side4 A23.out).mono ?_); (case side1 => repeat (first | exact (Kd.R_reads' HO401.out).2.2 | (with_reducible refine Kd.C_alloc ?_ _) | (with_reducible refine Kd.C_drewN ?_ _) | (with_reducible refine Kd.C_drew ?_))); (case side2 => exact (Kd.R_reads' HO401.out).2.1); (case side3 => repeat (first | exact (Kd.R_reads' HO404.out).2.2 | (with_reducible refine Kd.C_alloc ?_ _) | (with_reducible refine Kd.C_drewN ?_ _) | (with_reducible refine Kd.C_drew ?_))); (case side4 => exact (Kd.R_reads' HO404.out).2.1); rintro e w' ⟨rfl, ⟨nd, rfl⟩⟩))
        go_ret
        exact ⟨by first | rfl | (simp [errW_none, errW_some] <;> rfl) | (simp [*, errW_none, errW_some] <;> rfl), by repeat (first | (with_reducible first | exact HB.out | apply below_alloc | apply pw_below_drewN | apply below_drew1) | exact HB.out)⟩
      ·
       replace c20 := Bool.eq_false_iff.mpr c20
       subst c20
       have H1 : (some false) = some r := by rw [if_neg (show ¬ (false = true) by decide)] at H; exact H
       clear H
       have H := H1
       clear H1
       obtain rfl := Option.some.inj H
       go_wp2_with (first | ((with_reducible refine gate_callee (f := 13) rfl ?_); refine goesL_ (some 16) rfl rfl Try.func13 (by kernel_rfl) rfl #[.slice A0 l0.length c0] rfl (by (try simp only [List.map_toArray, List.map_cons, List.map_nil]); first | done | rfl | (simp only [List.length_drop, List.length_take]; rfl)) ?_; (with_reducible refine (q3z.calls _ _ l0 t379 _ ?side1 ?side2 A11.out).mono ?_); (case side1 => repeat (first | exact (Kd.C_below HR0.out HB.out) | (with_reducible refine Kd.C_alloc ?_ _) | (with_reducible refine Kd.C_drewN ?_ _) | (with_reducible refine Kd.C_drew ?_))); (case side2 => exact HC0.out); rintro e w76 ⟨v380, rfl, ho0, hb⟩; refine ⟨_, rfl, ?_⟩; have n0_ := Aside0.mk (Kd.R_lower ho0 (below_size (by repeat (first | (with_reducible first | exact HB.out | apply below_alloc | apply pw_below_drewN | apply below_drew1) | exact HB.out)))); have n1_ := Aside0.mk (below_step (by repeat (first | (with_reducible first | exact HB.out | apply below_alloc | apply pw_below_drewN | apply below_drew1) | exact HB.out)) hb); clear HB; have HO381 := n0_; have HB := n1_; clear n0_ n1_; (try clear hb); (try clear hb2); (try clear hk); (try clear hi); (try clear ho0)) | ((with_reducible refine gate_callee (f := 13) rfl ?_); refine goesL_ (some 18) rfl rfl Try.func13 (by kernel_rfl) rfl #[.slice A1 l1.length c1] rfl (by (try simp only [List.map_toArray, List.map_cons, List.map_nil]); first | done | rfl | (simp only [List.length_drop, List.length_take]; rfl)) ?_; (with_reducible refine (q3z.calls _ _ l1 t382 _ ?side1 ?side2 A12.out).mono ?_); (case side1 => repeat (first | exact (Kd.C_below HR1.out HB.out) | (with_reducible refine Kd.C_alloc ?_ _) | (with_reducible refine Kd.C_drewN ?_ _) | (with_reducible refine Kd.C_drew ?_))); (case side2 => exact HC1.out); rintro e w77 ⟨v383, rfl, ho0, hb⟩; refine ⟨_, rfl, ?_⟩; have n0_ := Aside0.mk (Kd.R_elder' (by (with_reducible repeat (first | apply Kd.R_alloc | apply Kd.R_drewN | apply Kd.R_drew)); exact HO381.out) (Kd.R_base ho0) hb); have n1_ := Aside0.mk (Kd.R_lower (Kd.R_new' ho0 (Kd.R_lt (by (with_reducible repeat (first | apply Kd.R_alloc | apply Kd.R_drewN | apply Kd.R_drew)); exact HO381.out))) (below_size (by repeat (first | (with_reducible first | exact HB.out | apply below_alloc | apply pw_below_drewN | apply below_drew1) | exact HB.out)))); have n2_ := Aside0.mk (below_step (by repeat (first | (with_reducible first | exact HB.out | apply below_alloc | apply pw_below_drewN | apply below_drew1) | exact HB.out)) hb); clear HO381; clear HB; have HO381 := n0_; have HO384 := n1_; have HB := n2_; clear n0_ n1_ n2_; (try clear hb); (try clear hb2); (try clear hk); (try clear hi); (try clear ho0); obtain ⟨Ao78, co78, eo78⟩ := Kd.R_slice HO381.out; subst eo78; obtain ⟨Ao79, co79, eo79⟩ := Kd.R_slice HO384.out; subst eo79) | ((with_reducible refine gate_callee (f := 19) rfl ?_); refine goesL_ (some 21) rfl rfl Try.func19 (by kernel_rfl) rfl #[.slice Ao78 t379.length co78, .slice Ao79 t382.length co79] rfl (by (try simp only [List.map_toArray, List.map_cons, List.map_nil]); first | done | rfl | (simp only [List.length_drop, List.length_take]; rfl)) ?_; (with_reducible refine (span_Union.calls kj4 _ _ t379 _ _ t382 t385 _ ?side1 ?side2 ?side3 ?side4 A13.out).mono ?_); (case side1 => repeat (first | exact (Kd.R_reads' HO381.out).2.2 | (with_reducible refine Kd.C_alloc ?_ _) | (with_reducible refine Kd.C_drewN ?_ _) | (with_reducible refine Kd.C_drew ?_))); (case side2 => exact (Kd.R_reads' HO381.out).2.1); (case side3 => repeat (first | exact (Kd.R_reads' HO384.out).2.2 | (with_reducible refine Kd.C_alloc ?_ _) | (with_reducible refine Kd.C_drewN ?_ _) | (with_reducible refine Kd.C_drew ?_))); (case side4 => exact (Kd.R_reads' HO384.out).2.1); rintro e w80 ⟨v386, rfl, ho0, hb⟩; refine ⟨_, rfl, ?_⟩; have n0_ := Aside0.mk (Kd.R_elder' (by (with_reducible repeat (first | apply Kd.R_alloc | apply Kd.R_drewN | apply Kd.R_drew)); exact HO381.out) (Kd.R_base ho0) hb); have n1_ := Aside0.mk (Kd.R_elder' (by (with_reducible repeat (first | apply Kd.R_alloc | apply Kd.R_drewN | apply Kd.R_drew)); exact HO384.out) (Kd.R_base ho0) hb); have n2_ := Aside0.mk (Kd.R_lower (Kd.R_new' (Kd.R_new' ho0 (Kd.R_lt (by (with_reducible repeat (first | apply Kd.R_alloc | apply Kd.R_drewN | apply Kd.R_drew)); exact HO381.out))) (Kd.R_lt (by (with_reducible repeat (first | apply Kd.R_alloc | apply Kd.R_drewN | apply Kd.R_drew)); exact HO384.out))) (below_size (by repeat (first | (with_reducible first | exact HB.out | apply below_alloc | apply pw_below_drewN | apply below_drew1) | exact HB.out)))); have n3_ := Aside0.mk (below_step (by repeat (first | (with_reducible first | exact HB.out | apply below_alloc | apply pw_below_drewN | apply below_drew1) | exact HB.out)) hb); clear HO381; clear HO384; clear HB; have HO381 := n0_; have HO384 := n1_; have HO387 := n2_; have HB := n3_; clear n0_ n1_ n2_ n3_; (try clear hb); (try clear hb2); (try clear hk); (try clear hi); (try clear ho0)) | ((with_reducible refine gate_callee (f := 20) rfl ?_); refine goesL_ (some 24) rfl rfl Try.func20 (by kernel_rfl) rfl #[.int .i64 1, .slice A0 l0.length c0, .slice A1 l1.length c1] rfl (by (try simp only [List.map_toArray, List.map_cons, List.map_nil]); first | done | rfl | (simp only [List.length_drop, List.length_take]; rfl)) ?_; (with_reducible refine (q10z.calls kj4 1 (fun k_ => k_ < w.heap.size) _ _ l0 (fun k_ => k_ < w.heap.size) _ _ l1 t388 _ ?side1 ?side2 A14.out).mono ?_); (case side1 => exact Kd.V_mk HC0.out (Kd.F_below (Kd.C_F k33_heap HR0.out) (by repeat (first | (with_reducible first | exact HB.out | apply below_alloc | apply pw_below_drewN | apply below_drew1) | exact HB.out)))); (case side2 => exact Kd.V_mk HC1.out (Kd.F_below (Kd.C_F k33_heap HR1.out) (by repeat (first | (with_reducible first | exact HB.out | apply below_alloc | apply pw_below_drewN | apply below_drew1) | exact HB.out)))); rintro e w81 ⟨v389, rfl, ho0, hb⟩; refine ⟨_, rfl, ?_⟩; have n0_ := Aside0.mk (Kd.R_elder' (by (with_reducible repeat (first | apply Kd.R_alloc | apply Kd.R_drewN | apply Kd.R_drew)); exact HO381.out) (Kd.R_base ho0) hb); have n1_ := Aside0.mk (Kd.R_elder' (by (with_reducible repeat (first | apply Kd.R_alloc | apply Kd.R_drewN | apply Kd.R_drew)); exact HO384.out) (Kd.R_base ho0) hb); have n2_ := Aside0.mk (Kd.R_elder' (by (with_reducible repeat (first | apply Kd.R_alloc | apply Kd.R_drewN | apply Kd.R_drew)); exact HO387.out) (Kd.R_base ho0) hb); have n3_ := Aside0.mk (Kd.R_lower (Kd.R_new' (Kd.R_new' (Kd.R_new' (Kd.R_mono (ok' := fun k_ => True) ho0 (fun _ hk_ => trivial)) (Kd.R_lt (by (with_reducible repeat (first | apply Kd.R_alloc | apply Kd.R_drewN | apply Kd.R_drew)); exact HO381.out))) (Kd.R_lt (by (with_reducible repeat (first | apply Kd.R_alloc | apply Kd.R_drewN | apply Kd.R_drew)); exact HO384.out))) (Kd.R_lt (by (with_reducible repeat (first | apply Kd.R_alloc | apply Kd.R_drewN | apply Kd.R_drew)); exact HO387.out))) (below_size (by repeat (first | (with_reducible first | exact HB.out | apply below_alloc | apply pw_below_drewN | apply below_drew1) | exact HB.out)))); have n4_ := Aside0.mk (below_step (by repeat (first | (with_reducible first | exact HB.out | apply below_alloc | apply pw_below_drewN | apply below_drew1) | exact HB.out)) hb); clear HO381; clear HO384; clear HO387; clear HB; have HO381 := n0_; have HO384 := n1_; have HO387 := n2_; have HO390 := n3_; have HB := n4_; clear n0_ n1_ n2_ n3_ n4_; (try clear hb); (try clear hb2); (try clear hk); (try clear hi); (try clear ho0); obtain ⟨Ao82, co82, eo82⟩ := Kd.R_slice HO387.out; subst eo82; obtain ⟨Ao83, co83, eo83⟩ := Kd.R_slice HO390.out; subst eo83) | ((with_reducible refine gate_callee (f := 10) rfl ?_); refine goesL_ (some 25) rfl rfl Try.func10 (by kernel_rfl) rfl #[.slice Ao82 t385.length co82, .slice Ao83 t388.length co83] rfl (by (try simp only [List.map_toArray, List.map_cons, List.map_nil]); first | done | rfl | (simp only [List.length_drop, List.length_take]; rfl)) ?_; (with_reducible refine (q2z.calls kj4 _ _ t385 _ _ t388 true _ ?side1 ?side2 ?side3 ?side4 A15.out).mono ?_); (case side1 => repeat (first | exact (Kd.R_reads' HO387.out).2.2 | (with_reducible refine Kd.C_alloc ?_ _) | (with_reducible refine Kd.C_drewN ?_ _) | (with_reducible refine Kd.C_drew ?_))); (case side2 => exact (Kd.R_reads' HO387.out).2.1); (case side3 => repeat (first | exact (Kd.R_reads' HO390.out).2.2 | (with_reducible refine Kd.C_alloc ?_ _) | (with_reducible refine Kd.C_drewN ?_ _) | (with_reducible refine Kd.C_drew ?_))); (case side4 => exact (Kd.R_reads' HO390.out).2.1); rintro e w' ⟨rfl, ⟨nd, rfl⟩⟩; refine ⟨_, rfl, ?_⟩) | (go_at_call 18; (with_reducible refine (q4z.calls kj4 _ _ t379 _ _ t382 t392 _ ?side1 ?side2 ?side3 ?side4 A17.out).mono ?_); (case side1 => repeat (first | exact (Kd.R_reads' HO381.out).2.2 | (with_reducible refine Kd.C_alloc ?_ _) | (with_reducible refine Kd.C_drewN ?_ _) | (with_reducible refine Kd.C_drew ?_))); (case side2 => exact (Kd.R_reads' HO381.out).2.1); (case side3 => repeat (first | exact (Kd.R_reads' HO384.out).2.2 | (with_reducible refine Kd.C_alloc ?_ _) | (with_reducible refine Kd.C_drewN ?_ _) | (with_reducible refine Kd.C_drew ?_))); (case side4 => exact (Kd.R_reads' HO384.out).2.1); rintro e w84 ⟨v393, rfl, ho0, hb⟩; have n0_ := Aside0.mk (Kd.R_elder' (by (with_reducible repeat (first | apply Kd.R_alloc | apply Kd.R_drewN | apply Kd.R_drew)); exact HO381.out) (Kd.R_base ho0) hb); have n1_ := Aside0.mk (Kd.R_elder' (by (with_reducible repeat (first | apply Kd.R_alloc | apply Kd.R_drewN | apply Kd.R_drew)); exact HO384.out) (Kd.R_base ho0) hb); have n2_ := Aside0.mk (Kd.R_elder' (by (with_reducible repeat (first | apply Kd.R_alloc | apply Kd.R_drewN | apply Kd.R_drew)); exact HO387.out) (Kd.R_base ho0) hb); have n3_ := Aside0.mk (Kd.R_elder' (by (with_reducible repeat (first | apply Kd.R_alloc | apply Kd.R_drewN | apply Kd.R_drew)); exact HO390.out) (Kd.R_base ho0) hb); have n4_ := Aside0.mk (Kd.R_lower (Kd.R_new' (Kd.R_new' (Kd.R_new' (Kd.R_new' ho0 (Kd.R_lt (by (with_reducible repeat (first | apply Kd.R_alloc | apply Kd.R_drewN | apply Kd.R_drew)); exact HO381.out))) (Kd.R_lt (by (with_reducible repeat (first | apply Kd.R_alloc | apply Kd.R_drewN | apply Kd.R_drew)); exact HO384.out))) (Kd.R_lt (by (with_reducible repeat (first | apply Kd.R_alloc | apply Kd.R_drewN | apply Kd.R_drew)); exact HO387.out))) (Kd.R_lt (by (with_reducible repeat (first | apply Kd.R_alloc | apply Kd.R_drewN | apply Kd.R_drew)); exact HO390.out))) (below_size (by repeat (first | (with_reducible first | exact HB.out | apply below_alloc | apply pw_below_drewN | apply below_drew1) | exact HB.out)))); have n5_ := Aside0.mk (below_step (by repeat (first | (with_reducible first | exact HB.out | apply below_alloc | apply pw_below_drewN | apply below_drew1) | exact HB.out)) hb); clear HO381; clear HO384; clear HO387; clear HO390; clear HB; have HO381 := n0_; have HO384 := n1_; have HO387 := n2_; have HO390 := n3_; have HO394 := n4_; have HB := n5_; clear n0_ n1_ n2_ n3_ n4_ n5_; (try clear hb); (try clear hb2); (try clear hk); (try clear hi); (try clear ho0)) | (go_at_call 20; (with_reducible refine (q10z.calls kj4 2 (fun k_ => k_ < w.heap.size) _ _ l0 (fun k_ => k_ < w.heap.size) _ _ l1 t395 _ ?side1 ?side2 A18.out).mono ?_); (case side1 => exact Kd.V_mk HC0.out (Kd.F_below (Kd.C_F k33_heap HR0.out) (by repeat (first | (with_reducible first | exact HB.out | apply below_alloc | apply pw_below_drewN | apply below_drew1) | exact HB.out)))); (case side2 => exact Kd.V_mk HC1.out (Kd.F_below (Kd.C_F k33_heap HR1.out) (by repeat (first | (with_reducible first | exact HB.out | apply below_alloc | apply pw_below_drewN | apply below_drew1) | exact HB.out)))); rintro e w85 ⟨v396, rfl, ho0, hb⟩; have n0_ := Aside0.mk (Kd.R_elder' (by (with_reducible repeat (first | apply Kd.R_alloc | apply Kd.R_drewN | apply Kd.R_drew)); exact HO381.out) (Kd.R_base ho0) hb); have n1_ := Aside0.mk (Kd.R_elder' (by (with_reducible repeat (first | apply Kd.R_alloc | apply Kd.R_drewN | apply Kd.R_drew)); exact HO384.out) (Kd.R_base ho0) hb); have n2_ := Aside0.mk (Kd.R_elder' (by (with_reducible repeat (first | apply Kd.R_alloc | apply Kd.R_drewN | apply Kd.R_drew)); exact HO387.out) (Kd.R_base ho0) hb); have n3_ := Aside0.mk (Kd.R_elder' (by (with_reducible repeat (first | apply Kd.R_alloc | apply Kd.R_drewN | apply Kd.R_drew)); exact HO390.out) (Kd.R_base ho0) hb); have n4_ := Aside0.mk (Kd.R_elder' (by (with_reducible repeat (first | apply Kd.R_alloc | apply Kd.R_drewN | apply Kd.R_drew)); exact HO394.out) (Kd.R_base ho0) hb); have n5_ := Aside0.mk (Kd.R_lower (Kd.R_new' (Kd.R_new' (Kd.R_new' (Kd.R_new' (Kd.R_new' (Kd.R_mono (ok' := fun k_ => True) ho0 (fun _ hk_ => trivial)) (Kd.R_lt (by (with_reducible repeat (first | apply Kd.R_alloc | apply Kd.R_drewN | apply Kd.R_drew)); exact HO381.out))) (Kd.R_lt (by (with_reducible repeat (first | apply Kd.R_alloc | apply Kd.R_drewN | apply Kd.R_drew)); exact HO384.out))) (Kd.R_lt (by (with_reducible repeat (first | apply Kd.R_alloc | apply Kd.R_drewN | apply Kd.R_drew)); exact HO387.out))) (Kd.R_lt (by (with_reducible repeat (first | apply Kd.R_alloc | apply Kd.R_drewN | apply Kd.R_drew)); exact HO390.out))) (Kd.R_lt (by (with_reducible repeat (first | apply Kd.R_alloc | apply Kd.R_drewN | apply Kd.R_drew)); exact HO394.out))) (below_size (by repeat (first | (with_reducible first | exact HB.out | apply below_alloc | apply pw_below_drewN | apply below_drew1) | exact HB.out)))); have n6_ := Aside0.mk (below_step (by repeat (first | (with_reducible first | exact HB.out | apply below_alloc | apply pw_below_drewN | apply below_drew1) | exact HB.out)) hb); clear HO381; clear HO384; clear HO387; clear HO390; clear HO394; clear HB; have HO381 := n0_; have HO384 := n1_; have HO387 := n2_; have HO390 := n3_; have HO394 := n4_; have HO397 := n5_; have HB := n6_; clear n0_ n1_ n2_ n3_ n4_ n5_ n6_; (try clear hb); (try clear hb2); (try clear hk); (try clear hi); (try clear ho0); obtain ⟨Ao86, co86, eo86⟩ := Kd.R_slice HO394.out; subst eo86; obtain ⟨Ao87, co87, eo87⟩ := Kd.R_slice HO397.out; subst eo87) | (go_at_call 10; (with_reducible refine (q2z.calls kj4 _ _ t392 _ _ t395 false _ ?side1 ?side2 ?side3 ?side4 A19.out).mono ?_); (case side1 => repeat (first | exact (Kd.R_reads' HO394.out).2.2 | (with_reducible refine Kd.C_alloc ?_ _) | (with_reducible refine Kd.C_drewN ?_ _) | (with_reducible refine Kd.C_drew ?_))); (case side2 => exact (Kd.R_reads' HO394.out).2.1); (case side3 => repeat (first | exact (Kd.R_reads' HO397.out).2.2 | (with_reducible refine Kd.C_alloc ?_ _) | (with_reducible refine Kd.C_drewN ?_ _) | (with_reducible refine Kd.C_drew ?_))); (case side4 => exact (Kd.R_reads' HO397.out).2.1); rintro e w' ⟨rfl, ⟨nd, rfl⟩⟩))
       go_ret
       exact ⟨by first | rfl | (simp [errW_none, errW_some] <;> rfl) | (simp [*, errW_none, errW_some] <;> rfl), by repeat (first | (with_reducible first | exact HB.out | apply below_alloc | apply pw_below_drewN | apply below_drew1) | exact HB.out)⟩
     ·
      replace c16 := Bool.eq_false_iff.mpr c16
      subst c16
      have H1 : (some false) = some r := by rw [if_neg (show ¬ (false = true) by decide)] at H; exact H
      clear H
      have H := H1
      clear H1
      obtain rfl := Option.some.inj H
      go_wp2_with (first | ((with_reducible refine gate_callee (f := 13) rfl ?_); refine goesL_ (some 16) rfl rfl Try.func13 (by kernel_rfl) rfl #[.slice A0 l0.length c0] rfl (by (try simp only [List.map_toArray, List.map_cons, List.map_nil]); first | done | rfl | (simp only [List.length_drop, List.length_take]; rfl)) ?_; (with_reducible refine (q3z.calls _ _ l0 t379 _ ?side1 ?side2 A11.out).mono ?_); (case side1 => repeat (first | exact (Kd.C_below HR0.out HB.out) | (with_reducible refine Kd.C_alloc ?_ _) | (with_reducible refine Kd.C_drewN ?_ _) | (with_reducible refine Kd.C_drew ?_))); (case side2 => exact HC0.out); rintro e w88 ⟨v380, rfl, ho0, hb⟩; refine ⟨_, rfl, ?_⟩; have n0_ := Aside0.mk (Kd.R_lower ho0 (below_size (by repeat (first | (with_reducible first | exact HB.out | apply below_alloc | apply pw_below_drewN | apply below_drew1) | exact HB.out)))); have n1_ := Aside0.mk (below_step (by repeat (first | (with_reducible first | exact HB.out | apply below_alloc | apply pw_below_drewN | apply below_drew1) | exact HB.out)) hb); clear HB; have HO381 := n0_; have HB := n1_; clear n0_ n1_; (try clear hb); (try clear hb2); (try clear hk); (try clear hi); (try clear ho0)) | ((with_reducible refine gate_callee (f := 13) rfl ?_); refine goesL_ (some 18) rfl rfl Try.func13 (by kernel_rfl) rfl #[.slice A1 l1.length c1] rfl (by (try simp only [List.map_toArray, List.map_cons, List.map_nil]); first | done | rfl | (simp only [List.length_drop, List.length_take]; rfl)) ?_; (with_reducible refine (q3z.calls _ _ l1 t382 _ ?side1 ?side2 A12.out).mono ?_); (case side1 => repeat (first | exact (Kd.C_below HR1.out HB.out) | (with_reducible refine Kd.C_alloc ?_ _) | (with_reducible refine Kd.C_drewN ?_ _) | (with_reducible refine Kd.C_drew ?_))); (case side2 => exact HC1.out); rintro e w89 ⟨v383, rfl, ho0, hb⟩; refine ⟨_, rfl, ?_⟩; have n0_ := Aside0.mk (Kd.R_elder' (by (with_reducible repeat (first | apply Kd.R_alloc | apply Kd.R_drewN | apply Kd.R_drew)); exact HO381.out) (Kd.R_base ho0) hb); have n1_ := Aside0.mk (Kd.R_lower (Kd.R_new' ho0 (Kd.R_lt (by (with_reducible repeat (first | apply Kd.R_alloc | apply Kd.R_drewN | apply Kd.R_drew)); exact HO381.out))) (below_size (by repeat (first | (with_reducible first | exact HB.out | apply below_alloc | apply pw_below_drewN | apply below_drew1) | exact HB.out)))); have n2_ := Aside0.mk (below_step (by repeat (first | (with_reducible first | exact HB.out | apply below_alloc | apply pw_below_drewN | apply below_drew1) | exact HB.out)) hb); clear HO381; clear HB; have HO381 := n0_; have HO384 := n1_; have HB := n2_; clear n0_ n1_ n2_; (try clear hb); (try clear hb2); (try clear hk); (try clear hi); (try clear ho0); obtain ⟨Ao90, co90, eo90⟩ := Kd.R_slice HO381.out; subst eo90; obtain ⟨Ao91, co91, eo91⟩ := Kd.R_slice HO384.out; subst eo91) | ((with_reducible refine gate_callee (f := 19) rfl ?_); refine goesL_ (some 21) rfl rfl Try.func19 (by kernel_rfl) rfl #[.slice Ao90 t379.length co90, .slice Ao91 t382.length co91] rfl (by (try simp only [List.map_toArray, List.map_cons, List.map_nil]); first | done | rfl | (simp only [List.length_drop, List.length_take]; rfl)) ?_; (with_reducible refine (span_Union.calls kj4 _ _ t379 _ _ t382 t385 _ ?side1 ?side2 ?side3 ?side4 A13.out).mono ?_); (case side1 => repeat (first | exact (Kd.R_reads' HO381.out).2.2 | (with_reducible refine Kd.C_alloc ?_ _) | (with_reducible refine Kd.C_drewN ?_ _) | (with_reducible refine Kd.C_drew ?_))); (case side2 => exact (Kd.R_reads' HO381.out).2.1); (case side3 => repeat (first | exact (Kd.R_reads' HO384.out).2.2 | (with_reducible refine Kd.C_alloc ?_ _) | (with_reducible refine Kd.C_drewN ?_ _) | (with_reducible refine Kd.C_drew ?_))); (case side4 => exact (Kd.R_reads' HO384.out).2.1); rintro e w92 ⟨v386, rfl, ho0, hb⟩; refine ⟨_, rfl, ?_⟩; have n0_ := Aside0.mk (Kd.R_elder' (by (with_reducible repeat (first | apply Kd.R_alloc | apply Kd.R_drewN | apply Kd.R_drew)); exact HO381.out) (Kd.R_base ho0) hb); have n1_ := Aside0.mk (Kd.R_elder' (by (with_reducible repeat (first | apply Kd.R_alloc | apply Kd.R_drewN | apply Kd.R_drew)); exact HO384.out) (Kd.R_base ho0) hb); have n2_ := Aside0.mk (Kd.R_lower (Kd.R_new' (Kd.R_new' ho0 (Kd.R_lt (by (with_reducible repeat (first | apply Kd.R_alloc | apply Kd.R_drewN | apply Kd.R_drew)); exact HO381.out))) (Kd.R_lt (by (with_reducible repeat (first | apply Kd.R_alloc | apply Kd.R_drewN | apply Kd.R_drew)); exact HO384.out))) (below_size (by repeat (first | (with_reducible first | exact HB.out | apply below_alloc | apply pw_below_drewN | apply below_drew1) | exact HB.out)))); have n3_ := Aside0.mk (below_step (by repeat (first | (with_reducible first | exact HB.out | apply below_alloc | apply pw_below_drewN | apply below_drew1) | exact HB.out)) hb); clear HO381; clear HO384; clear HB; have HO381 := n0_; have HO384 := n1_; have HO387 := n2_; have HB := n3_; clear n0_ n1_ n2_ n3_; (try clear hb); (try clear hb2); (try clear hk); (try clear hi); (try clear ho0)) | ((with_reducible refine gate_callee (f := 20) rfl ?_); refine goesL_ (some 24) rfl rfl Try.func20 (by kernel_rfl) rfl #[.int .i64 1, .slice A0 l0.length c0, .slice A1 l1.length c1] rfl (by (try simp only [List.map_toArray, List.map_cons, List.map_nil]); first | done | rfl | (simp only [List.length_drop, List.length_take]; rfl)) ?_; (with_reducible refine (q10z.calls kj4 1 (fun k_ => k_ < w.heap.size) _ _ l0 (fun k_ => k_ < w.heap.size) _ _ l1 t388 _ ?side1 ?side2 A14.out).mono ?_); (case side1 => exact Kd.V_mk HC0.out (Kd.F_below (Kd.C_F k33_heap HR0.out) (by repeat (first | (with_reducible first | exact HB.out | apply below_alloc | apply pw_below_drewN | apply below_drew1) | exact HB.out)))); (case side2 => exact Kd.V_mk HC1.out (Kd.F_below (Kd.C_F k33_heap HR1.out) (by repeat (first | (with_reducible first | exact HB.out | apply below_alloc | apply pw_below_drewN | apply below_drew1) | exact HB.out)))); rintro e w93 ⟨v389, rfl, ho0, hb⟩; refine ⟨_, rfl, ?_⟩; have n0_ := Aside0.mk (Kd.R_elder' (by (with_reducible repeat (first | apply Kd.R_alloc | apply Kd.R_drewN | apply Kd.R_drew)); exact HO381.out) (Kd.R_base ho0) hb); have n1_ := Aside0.mk (Kd.R_elder' (by (with_reducible repeat (first | apply Kd.R_alloc | apply Kd.R_drewN | apply Kd.R_drew)); exact HO384.out) (Kd.R_base ho0) hb); have n2_ := Aside0.mk (Kd.R_elder' (by (with_reducible repeat (first | apply Kd.R_alloc | apply Kd.R_drewN | apply Kd.R_drew)); exact HO387.out) (Kd.R_base ho0) hb); have n3_ := Aside0.mk (Kd.R_lower (Kd.R_new' (Kd.R_new' (Kd.R_new' (Kd.R_mono (ok' := fun k_ => True) ho0 (fun _ hk_ => trivial)) (Kd.R_lt (by (with_reducible repeat (first | apply Kd.R_alloc | apply Kd.R_drewN | apply Kd.R_drew)); exact HO381.out))) (Kd.R_lt (by (with_reducible repeat (first | apply Kd.R_alloc | apply Kd.R_drewN | apply Kd.R_drew)); exact HO384.out))) (Kd.R_lt (by (with_reducible repeat (first | apply Kd.R_alloc | apply Kd.R_drewN | apply Kd.R_drew)); exact HO387.out))) (below_size (by repeat (first | (with_reducible first | exact HB.out | apply below_alloc | apply pw_below_drewN | apply below_drew1) | exact HB.out)))); have n4_ := Aside0.mk (below_step (by repeat (first | (with_reducible first | exact HB.out | apply below_alloc | apply pw_below_drewN | apply below_drew1) | exact HB.out)) hb); clear HO381; clear HO384; clear HO387; clear HB; have HO381 := n0_; have HO384 := n1_; have HO387 := n2_; have HO390 := n3_; have HB := n4_; clear n0_ n1_ n2_ n3_ n4_; (try clear hb); (try clear hb2); (try clear hk); (try clear hi); (try clear ho0); obtain ⟨Ao94, co94, eo94⟩ := Kd.R_slice HO387.out; subst eo94; obtain ⟨Ao95, co95, eo95⟩ := Kd.R_slice HO390.out; subst eo95) | ((with_reducible refine gate_callee (f := 10) rfl ?_); refine goesL_ (some 25) rfl rfl Try.func10 (by kernel_rfl) rfl #[.slice Ao94 t385.length co94, .slice Ao95 t388.length co95] rfl (by (try simp only [List.map_toArray, List.map_cons, List.map_nil]); first | done | rfl | (simp only [List.length_drop, List.length_take]; rfl)) ?_; (with_reducible refine (q2z.calls kj4 _ _ t385 _ _ t388 false _ ?side1 ?side2 ?side3 ?side4 A15.out).mono ?_); (case side1 => repeat (first | exact (Kd.R_reads' HO387.out).2.2 | (with_reducible refine Kd.C_alloc ?_ _) | (with_reducible refine Kd.C_drewN ?_ _) | (with_reducible refine Kd.C_drew ?_))); (case side2 => exact (Kd.R_reads' HO387.out).2.1); (case side3 => repeat (first | exact (Kd.R_reads' HO390.out).2.2 | (with_reducible refine Kd.C_alloc ?_ _) | (with_reducible refine Kd.C_drewN ?_ _) | (with_reducible refine Kd.C_drew ?_))); (case side4 => exact (Kd.R_reads' HO390.out).2.1); rintro e w' ⟨rfl, ⟨nd, rfl⟩⟩; refine ⟨_, rfl, ?_⟩))
      go_ret
      exact ⟨by first | rfl | (simp [errW_none, errW_some] <;> rfl) | (simp [*, errW_none, errW_some] <;> rfl), by repeat (first | (with_reducible first | exact HB.out | apply below_alloc | apply pw_below_drewN | apply below_drew1) | exact HB.out)⟩
 ·
  replace c4 := Bool.eq_false_iff.mpr c4
  subst c4
  have H1 : (some false) = some r := by rw [if_neg (show ¬ (false = true) by decide)] at H; exact H
  clear H
  have H := H1
  clear H1
  obtain rfl := Option.some.inj H
  go_enter Try.func6, Try.ntmps6
  go_wp2_with (first | ((with_reducible refine gate_callee (f := 8) rfl ?_); refine goesL_ (some 7) rfl rfl Try.func8 (by kernel_rfl) rfl #[] rfl (by (try simp only [List.map_toArray, List.map_cons, List.map_nil]); first | done | rfl | (simp only [List.length_drop, List.length_take]; rfl)) ?_; (with_reducible refine (q16z.calls k  false _ A3.out).mono ?_); rintro e w96 ⟨rfl, hb⟩; refine ⟨_, rfl, ?_⟩; have n0_ := Aside0.mk (below_step (by repeat (first | (with_reducible first | exact HB.out | apply below_alloc | apply pw_below_drewN | apply below_drew1) | exact HB.out)) hb); clear HB; have HB := n0_; clear n0_; (try clear hb); (try clear hb2); (try clear hk); (try clear hi)))
  go_ret
  exact ⟨by first | rfl | (simp [errW_none, errW_some] <;> rfl) | (simp [*, errW_none, errW_some] <;> rfl), by repeat (first | (with_reducible first | exact HB.out | apply below_alloc | apply pw_below_drewN | apply below_drew1) | exact HB.out)⟩

end Go.Proofs.Ytconaifcjnpabaa.P

namespace Go.Proofs.Ytconaifcjnpabaa.P
open Go.RowKit Go.Proofs.YtconaifcjnpabaaW.PrintWords Go.Proofs.YtconaifcjnpabaaW.PrintLast Go.Proofs.YtconaifcjnpabaaW.PrintMore Go.ChangeShapes Go.WideShapes
set_option linter.unusedVariables false
section
variable {H : Type} {enc : TypeId × Value → H} {P : Program} {w : World} {base : Nat} {spare : Nat → Bool} {held : Bool}
/-- Whatever reads as data of type T is a value of kind d. -/
def Opens (enc : TypeId × Value → H) (P : Program) (w : World) (base : Nat) (spare : Nat → Bool) (held : Bool) {α : Type} (d : Kd α) (T : TypeId) (good : α → Prop) : Prop :=
  ∀ fuel cs y, DataW.trod enc P w base spare held fuel T cs = some y → ∃ x, d.K w x cs ∧ good x
theorem opens_int {k : IntKind} {T : TypeId} (ht : P.underlying T = some (.int k)) : Opens enc P w base spare held (Kd.int k) T (fun n => (Lit.int k n).wf = true) := by
  intro fuel cs y h
  obtain ⟨n, rfl, _, hw⟩ := DataW.trod_int ht h
  exact ⟨n, rfl, hw⟩
theorem opens_string {T : TypeId} (ht : P.underlying T = some .string) : Opens enc P w base spare held Kd.string T (fun s => s.size ≤ maxLen) := by
  intro fuel cs y h
  obtain ⟨s, rfl, _, hw⟩ := DataW.trod_string ht h
  exact ⟨s, rfl, hw⟩
theorem opens_bool {T : TypeId} (ht : P.underlying T = some .bool) : Opens enc P w base spare held Kd.bool T (fun _ => True) := by
  intro fuel cs y h
  cases fuel with
  | zero => simp [DataW.trod] at h
  | succ n =>
    unfold DataW.trod at h
    rw [ht] at h
    split at h
    all_goals first | exact ⟨_, rfl, trivial⟩ | (exfalso; simp_all; done)
theorem pick_list {α : Type} {Q : Nat → α → Prop} : ∀ n : Nat, (∀ i, i < n → ∃ x, Q i x) → ∃ xs : List α, xs.length = n ∧ ∀ i x, xs[i]? = some x → Q i x
  | 0, _ => ⟨[], rfl, fun i x h => by simp at h⟩
  | n + 1, h => by
    obtain ⟨xs, hl, hx⟩ := pick_list n (fun i hi => h i (by omega))
    obtain ⟨x, hxn⟩ := h n (by omega)
    refine ⟨xs ++ [x], by simp [hl], fun i z hz => ?_⟩
    by_cases hi : i < n
    · rw [List.getElem?_append_left (by omega)] at hz
      exact hx i z hz
    · rw [List.getElem?_append_right (by omega)] at hz
      have hi0 : i - xs.length = 0 := by
        have := (List.getElem?_eq_some_iff.1 hz).1
        simp at this
        omega
      rw [hi0] at hz
      have : x = z := by simpa using hz
      subst this
      have : i = n := by omega
      subst this
      exact hxn
theorem opens_slice {α : Type} {d : Kd α} {T e : TypeId} {good : α → Prop} (ht : P.underlying T = some (.slice e)) (hce : P.cellsOf e = d.sz) (ho : Opens enc P w base spare held d e good) :
    Opens enc P w base spare held (Kd.slice e d) T (fun xs => ∀ x ∈ xs, good x) := by
  intro fuel cs y h
  rcases Go.Deep.open_slice ht h with ⟨rfl, _⟩ | ⟨a, len, cap, m, n, D, Pl, rfl, hb, hl, hm, hmm, _, hx⟩
  · exact ⟨[], ⟨none, 0, rfl, Nat.le_refl _, ⟨rfl, by simp, fun h => absurd h (by simp)⟩⟩, fun x hx => (List.not_mem_nil hx).elim⟩
  · have hlm : len ≤ m := by rw [hmm]; split <;> omega
    have each : ∀ i, i < len → ∃ q : α × List Value, w.cells? base (a.add (i * d.sz)) d.sz = some q.2 ∧ d.K w q.1 q.2 ∧ good q.1 := fun i hi => by
      obtain ⟨cs', h1, h2⟩ := hx i (by omega)
      obtain ⟨x, hk, hg⟩ := ho _ _ _ h2
      rw [hce] at h1
      exact ⟨(x, cs'), h1, hk, hg⟩
    obtain ⟨qs, hql, hq⟩ := pick_list len each
    refine ⟨qs.map (·.1), ⟨some a, cap, by simp [hql], by simp [hql]; omega, ?_⟩, ?_⟩
    · refine ⟨rfl, by simp only [List.length_map, hql]; unfold maxLen at hm; omega, fun _ => ⟨a, rfl, fun j p hp => ?_⟩⟩
      rw [List.getElem?_map] at hp
      obtain ⟨q, hqj, rfl⟩ := Option.map_eq_some_iff.1 hp
      obtain ⟨h1, h2, _⟩ := hq j q hqj
      obtain ⟨_, h4, h5⟩ := World.cells?_some h1
      refine ⟨q.2, h4, h2, fun i u hu => ?_⟩
      have hi : i < d.sz := by have := (List.getElem?_eq_some_iff.1 hu).1; omega
      have h6 := h5 i hi
      rw [add_add] at h6
      rw [h6, hu]
    · intro x hx'
      obtain ⟨q, hq', rfl⟩ := List.mem_map.1 hx'
      obtain ⟨i, hi⟩ := List.getElem?_of_mem hq'
      exact (hq i q hi).2.2
end
end Go.Proofs.Ytconaifcjnpabaa.P

namespace Go.Proofs.Ytconaifcjnpabaa.P
open Go.RowKit Go.Proofs.YtconaifcjnpabaaW.PrintWords Go.Proofs.YtconaifcjnpabaaW.PrintMore Go.ChangeShapes Go.WideShapes
set_option linter.unusedVariables false
def good33 (x : S33) : Prop := (Lit.int .u32 x.f0).wf = true ∧ (Lit.int .u32 x.f1).wf = true
theorem opens_T33 {H : Type} {enc : TypeId × Value → H} {w : World} {base : Nat} {spare : Nat → Bool} {held : Bool} : Opens enc Try.prog w base spare held k33 33 good33 := by
  intro fuel cs y h
  obtain ⟨xs, n, _, _, hlen, hxl, hf⟩ := DataW.trod_struct Try.underlying33 h
  have hcs : cs.length = 2 := hlen.trans (by kernel_rfl)
  have h0 := hf 0 _ rfl
  obtain ⟨y0, e0⟩ : ∃ y_, xs[0]? = some y_ := ⟨_, List.getElem?_eq_getElem (by rw [hxl]; decide)⟩
  rw [e0] at h0
  have q0 : DataW.trod enc Try.prog w base spare held n 29 ((cs.drop 0).take 1) = some y0 := (congrArg (fun z => DataW.trod enc Try.prog w base spare held n 29 ((cs.drop 0).take z)) (show 1 = Try.prog.cellsOf 29 from by kernel_rfl)).trans h0
  obtain ⟨x0, k0_, g0⟩ := (opens_int Try.underlying29) _ _ _ q0
  have h1 := hf 1 _ rfl
  obtain ⟨y1, e1⟩ : ∃ y_, xs[1]? = some y_ := ⟨_, List.getElem?_eq_getElem (by rw [hxl]; decide)⟩
  rw [e1] at h1
  have q1 : DataW.trod enc Try.prog w base spare held n 29 ((cs.drop 1).take 1) = some y1 := (congrArg (fun z => DataW.trod enc Try.prog w base spare held n 29 ((cs.drop 1).take z)) (show 1 = Try.prog.cellsOf 29 from by kernel_rfl)).trans h1
  obtain ⟨x1, k1_, g1⟩ := (opens_int Try.underlying29) _ _ _ q1
  have s0 : cs.drop 0 = (cs.drop 0).take 1 ++ cs.drop 1 := by have e_ := (List.take_append_drop 1 (cs.drop 0)).symm; rwa [List.drop_drop] at e_
  have s1 : cs.drop 1 = (cs.drop 1).take 1 := (List.take_of_length_le (by rw [List.length_drop, hcs]; decide)).symm
  exact ⟨⟨x0, x1⟩, ⟨(cs.drop 0).take 1, cs.drop 1, (show cs = _ from s0), k0_, (by rw [s1]; exact k1_)⟩, g0, g1⟩
end Go.Proofs.Ytconaifcjnpabaa.P

namespace Go.Proofs.Ytconaifcjnpabaa.P
open Go.RowKit Go.Proofs.YtconaifcjnpabaaW.PrintWords Go.Proofs.YtconaifcjnpabaaW.PrintLast Go.Proofs.YtconaifcjnpabaaW.PrintMore
set_option linter.unusedVariables false

/-- What the closure of span.In says of a span. -/
def inSpan (n : Int) (s : S33) : Bool := decide (s.f0 ≤ n) && decide (n ≤ s.f1)
def span_In.f (l0 : List S33) (a1 : Int) : Option Bool := if l0.length ≤ 9223372036854775807 then some (l0.any (inSpan a1)) else none

theorem in_closure (n : Int) (B : Nat) (x : S33) (W : World) (hB : B < W.heap.size) (hc : W.cell? ⟨B, 0, none⟩ = some (.int .u32 n)) :
    Calls Try.prog 30 #[.agg #[.int .u32 x.f0, .int .u32 x.f1], .pointer (some ⟨B, 0, none⟩)] W fun e w' => e = .returned (.bool (inSpan n x)) ∧ Below W.heap.size W w' := by
  have hu33 := Try.underlying33
  have hne : B ≠ W.heap.size := by omega
  unfold inSpan
  by_cases h1 : x.f0 ≤ n
  · have d1 : decide (x.f0 ≤ n) = true := decide_eq_true h1
    go_enter Try.func30, Try.ntmps30
    go_wp2
    all_goals (go_ret; exact ⟨by simp_all, (Below.refl _ _).alloc (Nat.le_refl _) _⟩)
  · have d1 : decide (x.f0 ≤ n) = false := decide_eq_false h1
    go_enter Try.func30, Try.ntmps30
    go_wp2
    all_goals (go_ret; exact ⟨by simp_all, (Below.refl _ _).alloc (Nat.le_refl _) _⟩)

/-- What IndexFunc's loop has come to. -/
def NoneTill (p : S33 → Bool) (l : List S33) (k : Nat) : Prop := ∀ j, j < k → p (l.getD j z33) = false
theorem any_of_none (p : S33 → Bool) (l : List S33) (h : NoneTill p l l.length) : l.any p = false := by
  rw [List.any_eq_false]
  intro x hx
  obtain ⟨j, hj, rfl⟩ := List.getElem_of_mem hx
  have := h j hj
  rw [List.getD_eq_getElem?_getD, List.getElem?_eq_getElem hj] at this
  simpa using this
theorem any_of_some (p : S33 → Bool) (l : List S33) (k : Nat) (hk : k < l.length) (h : p (l.getD k z33) = true) : l.any p = true := by
  rw [List.any_eq_true]
  refine ⟨l[k], List.getElem_mem hk, ?_⟩
  rw [List.getD_eq_getElem?_getD, List.getElem?_eq_getElem hk] at h
  simpa using h
def IdxPost (p : S33 → Bool) (l : List S33) (w : World) (e : Ending) (w' : World) : Prop := ∃ i : Int, e = .returned (.int .i64 i) ∧ decide (i ≥ 0) = l.any p ∧ Below w.heap.size w w'

set_option maxHeartbeats 1000000 in
theorem in_index (n : Int) (B : Nat) (w : World) (hB : B < w.heap.size) (hcB : w.cell? ⟨B, 0, none⟩ = some (.int .u32 n)) (A0 : Option Addr) (c0 : Nat) (l0 : List (S33)) (hr0 : Kd.C k33 w A0 l0.length l0) (hl : l0.length ≤ 9223372036854775807) :
    Calls Try.prog 38 #[.slice A0 l0.length c0, .func (.func 30) #[] #[.pointer (some ⟨B, 0, none⟩)]] w (IdxPost (inSpan n) l0 w) := by
  have hu33 := Try.underlying33
  have HC := Go.Lib.hid hcB
  clear hcB
  have HR := Go.Lib.hid hr0
  clear hr0
  go_enter Try.func38, Try.ntmps38
  go_wp2
  go_loopw [8] (fun i wr => ∃ k : Nat, k ≤ l0.length ∧ i = .int .i64 k ∧ NoneTill (inSpan n) l0 k ∧ Below w.heap.size w wr) (fun i _ => l0.length - (intOf i).toNat)
  case atStart => exact ⟨0, Nat.zero_le _, rfl, fun j hj => absurd hj (Nat.not_lt_zero j), Below.refl _ _⟩
  case round =>
    obtain ⟨k, hk, rfl, hn, hb⟩ := hrel
    have HN := Go.Lib.hid hn
    clear hn
    have HBb := Go.Lib.hid hb
    clear hb
    by_cases hlt : k < l0.length
    · obtain ⟨ad, e0, h0, h1⟩ := at_T33 (Kd.C_below HR.out HBb.out) (k : Int) (by omega) (by omega)
      rw [Int.toNat_natCast] at h0 h1
      generalize hx : rd_T33 l0 (k : Int) = x at h0 h1
      have HX := Go.Lib.hid hx
      clear hx
      obtain rfl := e0
      have hBr : B < wr.heap.size := Nat.lt_of_lt_of_le hB HBb.out.size
      have hcr := (HBb.out.cell (p := ⟨B, 0, none⟩) hB).trans HC.out
      have hcl := in_closure n B x wr hBr hcr
      clear hcr
      have HCL := Go.Lib.hid hcl
      clear hcl
      by_cases hpx : inSpan n x = true
      · have HP := Go.Lib.hid hpx
        go_wp2_with (go_at_call 30; refine (HCL.out).mono ?_; rw [HP.out]; rintro e w' ⟨rfl, hb'⟩)
        clear hpx
        go_ret
        exact ⟨k, rfl, by rw [any_of_some (inSpan n) l0 k hlt (by have := HX.out; unfold rd_T33 at this; rw [Int.toNat_natCast] at this; rw [this]; exact HP.out)]; simp, HBb.out.trans (hb'.mono HBb.out.size)⟩
      · have hpx' : inSpan n x = false := by simpa using hpx
        clear hpx
        have HP := Go.Lib.hid hpx'
        go_wp2_with (go_at_call 30; refine (HCL.out).mono ?_; rw [HP.out]; rintro e w' ⟨rfl, hb'⟩)
        go_roundw
        case rel =>
          refine ⟨k + 1, by omega, by go_num, ?_, HBb.out.trans (hb'.mono HBb.out.size)⟩
          intro j hj
          by_cases e : j = k
          · subst e
            have := HX.out
            unfold rd_T33 at this
            rw [Int.toNat_natCast] at this
            rw [this]
            exact HP.out
          · exact HN.out j (by omega)
        case measure => simp [intOf]; omega
    · go_wp2
      go_ret
      exact ⟨-1, rfl, by rw [any_of_none (inSpan n) l0 (by have hkl : k = l0.length := (by omega); subst hkl; exact HN.out)]; simp, HBb.out⟩

theorem in_contains (n : Int) (B : Nat) (w : World) (hB : B < w.heap.size) (hcB : w.cell? ⟨B, 0, none⟩ = some (.int .u32 n)) (A0 : Option Addr) (c0 : Nat) (l0 : List (S33)) (hr0 : Kd.C k33 w A0 l0.length l0) (hl : l0.length ≤ 9223372036854775807) (r : Bool) (hr : l0.any (inSpan n) = r) :
    Calls Try.prog 29 #[.slice A0 l0.length c0, .func (.func 30) #[] #[.pointer (some ⟨B, 0, none⟩)]] w fun e w' => e = .returned (.bool r) ∧ Below w.heap.size w w' := by
  have HCON := Go.Lib.hid (in_index n B w hB hcB A0 c0 l0 hr0 hl)
  have HRr := Go.Lib.hid hr
  clear hr hr0 hcB
  go_enter Try.func29, Try.ntmps29
  go_wp2_with (first | (go_at_call 38; refine HCON.out.mono ?_; rintro e w' ⟨i, rfl, hi, hb⟩; have HI := Go.Lib.hid (hi.trans HRr.out); clear hi))
  go_ret
  exact ⟨by rw [← HI.out]; rfl, hb⟩

theorem span_In.calls (A0 : Option Addr) (c0 : Nat) (l0 : List (S33)) (a1 : Int) (r : Bool) (w : World) (hr0 : Kd.C k33 w A0 l0.length l0) (hc0 : l0.length ≤ c0) (h : span_In.f l0 a1 = some r) :
    Calls Try.prog 16 #[.slice A0 l0.length c0, .int .u32 a1] w fun e w' => e = .returned (.bool r) ∧ Below w.heap.size w w' := by
  unfold span_In.f at h
  by_cases hl : l0.length ≤ 9223372036854775807
  · rw [if_pos hl] at h
    have hr := Option.some.inj h
    clear h
    have HCON := Go.Lib.hid (in_contains a1 w.heap.size (w.alloc (.cells #[.int .u32 a1] 29)) (by simp) (by simp) A0 c0 l0 (Kd.C_below hr0 (below_alloc (Below.refl _ _) _)) hl r hr)
    clear hr hr0
    go_enter Try.func16, Try.ntmps16
    go_wp2_with (first | (go_at_call 29; refine HCON.out.mono ?_; rintro e w' ⟨rfl, hb⟩))
    go_ret
    exact ⟨rfl, (below_alloc (Below.refl _ _) _).trans (hb.mono (by simp))⟩
  · rw [if_neg hl] at h
    exact absurd h (by simp)
end Go.Proofs.Ytconaifcjnpabaa.P

namespace Go.Proofs.Ytconaifcjnpabaa.P
open Go.RowKit Go.Proofs.YtconaifcjnpabaaW.PrintWords Go.Proofs.YtconaifcjnpabaaW.PrintMore
set_option linter.unusedVariables false
/-! Sets of numbers as spans, in plain Lean. -/

def InS (l : List S33) (n : Int) : Bool := l.any (inSpan n)
theorem inSpan_iff (n : Int) (s : S33) : inSpan n s = true ↔ s.f0 ≤ n ∧ n ≤ s.f1 := by simp [inSpan]
theorem InS_iff (l : List S33) (n : Int) : InS l n = true ↔ ∃ s ∈ l, s.f0 ≤ n ∧ n ≤ s.f1 := by
  unfold InS
  rw [List.any_eq_true]
  simp only [inSpan_iff]
theorem InS_nil (n : Int) : InS [] n = false := rfl
theorem InS_cons (s : S33) (l : List S33) (n : Int) : InS (s :: l) n = (inSpan n s || InS l n) := rfl
theorem InS_append (a b : List S33) (n : Int) : InS (a ++ b) n = (InS a n || InS b n) := by unfold InS; rw [List.any_append]
def Ok (s : S33) : Prop := 0 ≤ s.f0 ∧ s.f0 ≤ s.f1 ∧ s.f1 ≤ 4294967295
def Rng (l : List S33) : Prop := ∀ s ∈ l, 0 ≤ s.f0 ∧ s.f0 ≤ 4294967295 ∧ 0 ≤ s.f1 ∧ s.f1 ≤ 4294967295
/-- A set's one form. -/
def NF (l : List S33) : Prop := (∀ s ∈ l, Ok s) ∧ l.Pairwise (fun a b => a.f1 + 1 < b.f0)
theorem NF_nil : NF [] := ⟨fun _ h => (List.not_mem_nil h).elim, List.Pairwise.nil⟩
theorem NF_cons {s : S33} {l : List S33} : NF (s :: l) ↔ Ok s ∧ (∀ x ∈ l, s.f1 + 1 < x.f0) ∧ NF l := by
  unfold NF
  rw [List.pairwise_cons]
  constructor
  · rintro ⟨h1, h2, h3⟩
    exact ⟨h1 s List.mem_cons_self, h2, fun x hx => h1 x (List.mem_cons_of_mem _ hx), h3⟩
  · rintro ⟨h1, h2, h3, h4⟩
    refine ⟨fun x hx => ?_, h2, h4⟩
    rcases List.mem_cons.1 hx with rfl | hx
    · exact h1
    · exact h3 x hx
theorem NF_snoc {s : S33} {l : List S33} : NF (l ++ [s]) ↔ NF l ∧ Ok s ∧ ∀ x ∈ l, x.f1 + 1 < s.f0 := by
  unfold NF
  rw [List.pairwise_append]
  constructor
  · rintro ⟨h1, h2, h3, h4⟩
    exact ⟨⟨fun x hx => h1 x (List.mem_append_left _ hx), h2⟩, h1 s (List.mem_append_right _ List.mem_cons_self), fun x hx => h4 x hx s List.mem_cons_self⟩
  · rintro ⟨⟨h1, h2⟩, h3, h4⟩
    refine ⟨fun x hx => ?_, h2, List.pairwise_singleton _ _, fun a ha b hb => ?_⟩
    · rcases List.mem_append.1 hx with hx | hx
      · exact h1 x hx
      · rw [List.mem_singleton.1 hx]; exact h3
    · rw [List.mem_singleton.1 hb]; exact h4 a ha
theorem NF_Rng {l : List S33} (h : NF l) : Rng l := fun s hs => by
  have h1 : Ok s := h.1 s hs
  unfold Ok at h1
  omega

theorem nf_head {x y : S33} {a b : List S33} (ha : NF (x :: a)) (hb : NF (y :: b)) (h : ∀ n, InS (x :: a) n = InS (y :: b) n) : x.f0 ≥ y.f0 := by
  obtain ⟨hx, hxa, ha'⟩ := NF_cons.1 ha
  obtain ⟨hy, hyb, hb'⟩ := NF_cons.1 hb
  have h1 : InS (x :: a) x.f0 = true := (InS_iff _ _).2 ⟨x, List.mem_cons_self, Int.le_refl _, hx.2.1⟩
  rw [h] at h1
  obtain ⟨s, hs, hs0, hs1⟩ := (InS_iff _ _).1 h1
  rcases List.mem_cons.1 hs with rfl | hs
  · exact hs0
  · have h2 := hyb s hs
    unfold Ok at hy
    omega
theorem nf_tail {x : S33} {y : S33} {a b : List S33} (ha : NF (x :: a)) (hb : NF (y :: b)) (h : ∀ n, InS (x :: a) n = InS (y :: b) n) (h0 : x.f0 = y.f0) : ¬ x.f1 < y.f1 := by
  intro hlt
  obtain ⟨hx, hxa, ha'⟩ := NF_cons.1 ha
  unfold Ok at hx
  have h1 : InS (y :: b) (x.f1 + 1) = true := (InS_iff _ _).2 ⟨y, List.mem_cons_self, by omega, by omega⟩
  rw [← h] at h1
  obtain ⟨s, hs, hs0, hs1⟩ := (InS_iff _ _).1 h1
  rcases List.mem_cons.1 hs with rfl | hs
  · omega
  · have h2 := hxa s hs
    omega
theorem nf_ext : ∀ {a b : List S33}, NF a → NF b → (∀ n, InS a n = InS b n) → a = b
  | [], [], _, _, _ => rfl
  | [], y :: b, _, hb, h => by
    obtain ⟨hy, _, _⟩ := NF_cons.1 hb
    have h1 : InS (y :: b) y.f0 = true := (InS_iff _ _).2 ⟨y, List.mem_cons_self, Int.le_refl _, hy.2.1⟩
    rw [← h] at h1
    exact absurd h1 (by simp [InS])
  | x :: a, [], ha, _, h => by
    obtain ⟨hx, _, _⟩ := NF_cons.1 ha
    have h1 : InS (x :: a) x.f0 = true := (InS_iff _ _).2 ⟨x, List.mem_cons_self, Int.le_refl _, hx.2.1⟩
    rw [h] at h1
    exact absurd h1 (by simp [InS])
  | x :: a, y :: b, ha, hb, h => by
    have h1 := nf_head ha hb h
    have h2 := nf_head hb ha (fun n => (h n).symm)
    have e0 : x.f0 = y.f0 := by omega
    have h3 := nf_tail ha hb h e0
    have h4 := nf_tail hb ha (fun n => (h n).symm) e0.symm
    have e1 : x.f1 = y.f1 := by omega
    have exy : x = y := by cases x; cases y; simp_all
    subst exy
    obtain ⟨hx, hxa, ha'⟩ := NF_cons.1 ha
    obtain ⟨_, hxb, hb'⟩ := NF_cons.1 hb
    unfold Ok at hx
    have ht : a = b := nf_ext ha' hb' (fun n => by
      have hn := h n
      rw [InS_cons, InS_cons] at hn
      by_cases hin : inSpan n x = true
      · rw [inSpan_iff] at hin
        have q : ∀ l : List S33, (∀ z ∈ l, x.f1 + 1 < z.f0) → InS l n = false := fun l hl => by
          cases hq : InS l n with
          | false => rfl
          | true =>
            obtain ⟨s, hs, hs0, _⟩ := (InS_iff _ _).1 hq
            have := hl s hs
            omega
        rw [q a hxa, q b hxb]
      · rw [Bool.not_eq_true] at hin
        simpa [hin] using hn)
    rw [ht]

/-! ### Norm -/
def mergeStep (out : List S33) (s : S33) : List S33 :=
  match out.getLast? with
  | none => [s]
  | some x => if x.f1 = 4294967295 ∨ s.f0 ≤ x.f1 + 1 then out.dropLast ++ [⟨x.f0, mx x.f1 s.f1⟩] else out ++ [s]
def mergeAll : List S33 → List S33 → List S33
  | out, [] => out
  | out, s :: r => mergeAll (mergeStep out s) r
theorem mergeStep_nil (s : S33) : mergeStep [] s = [s] := rfl
theorem mergeStep_snoc (p : List S33) (x s : S33) : mergeStep (p ++ [x]) s = if x.f1 = 4294967295 ∨ s.f0 ≤ x.f1 + 1 then p ++ [⟨x.f0, mx x.f1 s.f1⟩] else (p ++ [x]) ++ [s] := by
  unfold mergeStep
  simp
theorem mergeStep_nf {out : List S33} {s : S33} (ho : NF out) (hs : Ok s) (hle : ∀ x ∈ out, x.f0 ≤ s.f0) :
    NF (mergeStep out s) ∧ (∀ n, InS (mergeStep out s) n = (InS out n || inSpan n s)) ∧ ∀ x ∈ mergeStep out s, x.f0 ≤ s.f0 := by
  rcases List.eq_nil_or_concat out with rfl | ⟨p, x, rfl⟩
  · rw [mergeStep_nil]
    refine ⟨NF_cons.2 ⟨hs, fun _ h => (List.not_mem_nil h).elim, NF_nil⟩, fun n => by simp [InS], fun x hx => by rw [List.mem_singleton.1 hx]; exact Int.le_refl _⟩
  · simp only [List.concat_eq_append] at *
    rw [mergeStep_snoc]
    obtain ⟨hp, hx, hpx⟩ := NF_snoc.1 ho
    have hxs := hle x (by simp)
    have hx' := hx
    have hs' := hs
    unfold Ok at hx' hs'
    by_cases hc : x.f1 = 4294967295 ∨ s.f0 ≤ x.f1 + 1
    · rw [if_pos hc]
      have hm : mx x.f1 s.f1 = x.f1 ∧ s.f1 ≤ x.f1 ∨ mx x.f1 s.f1 = s.f1 ∧ x.f1 < s.f1 := by unfold mx; split <;> omega
      refine ⟨NF_snoc.2 ⟨hp, by show Ok (S33.mk x.f0 (mx x.f1 s.f1)); unfold Ok; rcases hm with hm | hm <;> simp only [hm.1] <;> omega, hpx⟩, fun n => ?_, fun z hz => ?_⟩
      · rw [InS_append, InS_append, Bool.or_assoc]
        congr 1
        simp only [InS, List.any_cons, List.any_nil, Bool.or_false]
        rw [Bool.eq_iff_iff, Bool.or_eq_true, inSpan_iff, inSpan_iff, inSpan_iff]
        rcases hm with hm | hm <;> simp only [hm.1] <;> omega
      · rcases List.mem_append.1 hz with hz | hz
        · exact hle z (List.mem_append_left _ hz)
        · rw [List.mem_singleton.1 hz]; exact hxs
    · rw [if_neg hc]
      rw [not_or] at hc
      refine ⟨NF_snoc.2 ⟨ho, hs, fun z hz => ?_⟩, fun n => by rw [InS_append]; simp [InS], fun z hz => ?_⟩
      · rcases List.mem_append.1 hz with hz | hz
        · have h1 := hpx z hz
          have h2 := hp.1 z hz
          unfold Ok at h2
          omega
        · rw [List.mem_singleton.1 hz]; omega
      · rcases List.mem_append.1 hz with hz | hz
        · exact hle z hz
        · rw [List.mem_singleton.1 hz]; exact Int.le_refl _
theorem mergeAll_nf : ∀ (t out : List S33), NF out → (∀ s ∈ t, Ok s) → t.Pairwise (fun a b => a.f0 ≤ b.f0) → (∀ x ∈ out, ∀ s ∈ t, x.f0 ≤ s.f0) →
    NF (mergeAll out t) ∧ ∀ n, InS (mergeAll out t) n = (InS out n || InS t n)
  | [], out, ho, _, _, _ => ⟨ho, fun n => by simp [mergeAll, InS]⟩
  | s :: r, out, ho, ht, hp, hle => by
    rw [List.pairwise_cons] at hp
    obtain ⟨h1, h2, h3⟩ := mergeStep_nf ho (ht s List.mem_cons_self) (fun x hx => hle x hx s List.mem_cons_self)
    obtain ⟨h4, h5⟩ := mergeAll_nf r (mergeStep out s) h1 (fun x hx => ht x (List.mem_cons_of_mem _ hx)) hp.2 (fun x hx y hy => Int.le_trans (h3 x hx) (hp.1 y hy))
    refine ⟨h4, fun n => ?_⟩
    rw [mergeAll, h5, h2, InS_cons, Bool.or_assoc]
/-- A set's one form, in plain Lean. -/
def norm (l : List S33) : List S33 := mergeAll [] ((l.filter (fun s => decide (s.f0 ≤ s.f1))).mergeSort (fun a b => decide (a.f0 ≤ b.f0)))

/-! ### Not -/
def notL : Int → List S33 → List S33
  | f, [] => [⟨f, 4294967295⟩]
  | f, s :: r => (if s.f0 > f then [⟨f, s.f0 - 1⟩] else []) ++ (if s.f1 = 4294967295 then [] else notL (s.f1 + 1) r)
theorem notL_nf : ∀ (l : List S33) (f : Int), 0 ≤ f → f ≤ 4294967295 → NF l → (∀ s ∈ l, f ≤ s.f0) → NF (notL f l) ∧ (∀ x ∈ notL f l, f ≤ x.f0) ∧ ∀ n, InS (notL f l) n = (decide (f ≤ n) && decide (n ≤ 4294967295) && !InS l n)
  | [], f, h0, h1, _, _ => by
    refine ⟨NF_cons.2 ⟨⟨h0, h1, Int.le_refl _⟩, fun _ h => (List.not_mem_nil h).elim, NF_nil⟩, fun x hx => by rw [List.mem_singleton.1 hx]; exact Int.le_refl _, fun n => by simp [notL, InS, inSpan]⟩
  | s :: r, f, h0, h1, hl, hf => by
    obtain ⟨hs, hsr, hr⟩ := NF_cons.1 hl
    have hfs := hf s List.mem_cons_self
    unfold Ok at hs
    by_cases hM : s.f1 = 4294967295
    · have hrn : r = [] := by
        cases r with
        | nil => rfl
        | cons z r =>
          have h2 := hsr z List.mem_cons_self
          have h3 := (NF_cons.1 hr).1
          unfold Ok at h3
          omega
      subst hrn
      simp only [notL, if_pos hM, List.append_nil]
      by_cases hg : s.f0 > f
      · rw [if_pos hg]
        refine ⟨NF_cons.2 ⟨⟨h0, by show f ≤ s.f0 - 1; omega, by show s.f0 - 1 ≤ 4294967295; omega⟩, fun _ h => (List.not_mem_nil h).elim, NF_nil⟩, fun x hx => by rw [List.mem_singleton.1 hx]; exact Int.le_refl _, fun n => ?_⟩
        simp only [InS, List.any_cons, List.any_nil, Bool.or_false]
        rw [Bool.eq_iff_iff]
        simp only [inSpan, Bool.and_eq_true, decide_eq_true_eq, Bool.not_eq_true', Bool.and_eq_false_iff, decide_eq_false_iff_not]
        omega
      · rw [if_neg hg]
        refine ⟨NF_nil, fun _ h => (List.not_mem_nil h).elim, fun n => ?_⟩
        simp only [InS, List.any_cons, List.any_nil, Bool.or_false]
        symm
        rw [Bool.eq_false_iff]
        simp only [ne_eq, inSpan, Bool.and_eq_true, decide_eq_true_eq, Bool.not_eq_true', Bool.and_eq_false_iff, decide_eq_false_iff_not]
        omega
    · obtain ⟨h2, h3, h4⟩ := notL_nf r (s.f1 + 1) (by omega) (by omega) hr (fun z hz => by have := hsr z hz; omega)
      simp only [notL, if_neg hM]
      have hin : ∀ n, InS r n = true → s.f1 + 1 < n := fun n hn => by
        obtain ⟨z, hz, hz0, _⟩ := (InS_iff _ _).1 hn
        have := hsr z hz
        omega
      have key : ∀ n, (decide (f ≤ n) && decide (n ≤ 4294967295) && !InS (s :: r) n) = ((decide (f ≤ n) && decide (n < s.f0)) || (decide (s.f1 + 1 ≤ n) && decide (n ≤ 4294967295) && !InS r n)) := fun n => by
        rw [InS_cons]
        have h5 := hin n
        cases hq : InS r n with
        | true =>
          have := h5 hq
          simp [inSpan]
          omega
        | false =>
          rw [Bool.eq_iff_iff]
          simp only [inSpan, Bool.or_false, Bool.not_false, Bool.and_true, Bool.or_eq_true, Bool.and_eq_true, decide_eq_true_eq, Bool.not_eq_true', Bool.and_eq_false_iff, decide_eq_false_iff_not]
          omega
      by_cases hg : s.f0 > f
      · rw [if_pos hg, List.singleton_append]
        refine ⟨NF_cons.2 ⟨⟨h0, by show f ≤ s.f0 - 1; omega, by show s.f0 - 1 ≤ 4294967295; omega⟩, fun x hx => by have := h3 x hx; show s.f0 - 1 + 1 < x.f0; omega, h2⟩, fun x hx => ?_, fun n => ?_⟩
        · rcases List.mem_cons.1 hx with rfl | hx
          · exact Int.le_refl _
          · have := h3 x hx; omega
        · rw [key, InS_cons, h4]
          congr 1
          rw [Bool.eq_iff_iff, inSpan_iff, Bool.and_eq_true, decide_eq_true_eq, decide_eq_true_eq]
          show f ≤ n ∧ n ≤ s.f0 - 1 ↔ _
          omega
      · rw [if_neg hg, List.nil_append]
        refine ⟨h2, fun x hx => by have := h3 x hx; omega, fun n => ?_⟩
        rw [key, h4]
        have : (decide (f ≤ n) && decide (n < s.f0)) = false := by
          rw [Bool.eq_false_iff]
          simp only [ne_eq, Bool.and_eq_true, decide_eq_true_eq]
          omega
        rw [this, Bool.false_or]
end Go.Proofs.Ytconaifcjnpabaa.P

namespace Go.Proofs.Ytconaifcjnpabaa.P
open Go.RowKit Go.Proofs.YtconaifcjnpabaaW.PrintWords Go.Proofs.YtconaifcjnpabaaW.PrintMore
set_option linter.unusedVariables false
/-! Cuts, and sets by pieces. -/
def Rising (l : List Int) : Prop := l.Pairwise (· < ·)
def ins (n : Int) (l : List Int) : List Int :=
  match l.dropWhile (fun a => decide (a < n)) with
  | [] => l ++ [n]
  | a :: r => if a = n then l else l.takeWhile (fun a => decide (a < n)) ++ n :: (a :: r)
theorem ins_split (n : Int) : ∀ l : List Int, l = l.takeWhile (fun a => decide (a < n)) ++ l.dropWhile (fun a => decide (a < n)) := fun l => List.takeWhile_append_dropWhile.symm
theorem tw_lt (n : Int) (l : List Int) : ∀ x ∈ l.takeWhile (fun a => decide (a < n)), x < n := by
  induction l with
  | nil => intro x hx; simp at hx
  | cons a r ih =>
    intro x hx
    rw [List.takeWhile_cons] at hx
    split at hx
    · rename_i h
      rcases List.mem_cons.1 hx with rfl | hx
      · simpa using h
      · exact ih x hx
    · simp at hx
theorem dw_head (n : Int) (l : List Int) (a : Int) (r : List Int) (h : l.dropWhile (fun a => decide (a < n)) = a :: r) : n ≤ a := by
  induction l with
  | nil => simp at h
  | cons b t ih =>
    rw [List.dropWhile_cons] at h
    split at h
    · exact ih h
    · rename_i hb
      obtain ⟨rfl, rfl⟩ := List.cons.inj h
      have : ¬ b < n := by simpa using hb
      omega
theorem mem_ins (n : Int) (l : List Int) (x : Int) : x ∈ ins n l ↔ x = n ∨ x ∈ l := by
  unfold ins
  split
  · simp [or_comm]
  · rename_i a r h
    have hs := ins_split n l
    rw [h] at hs
    split
    · rename_i ha
      subst ha
      constructor
      · exact .inr
      · rintro (rfl | hx)
        · rw [hs]; simp
        · exact hx
    · generalize l.takeWhile (fun a => decide (a < n)) = p at hs
      subst hs
      simp only [List.mem_append, List.mem_cons]
      constructor
      · rintro (h1 | h1 | h1 | h1) <;> simp [h1]
      · rintro (h1 | h1 | h1 | h1) <;> simp [h1]
theorem rising_ins (n : Int) (l : List Int) (hl : Rising l) : Rising (ins n l) := by
  unfold ins
  have hs := ins_split n l
  have ht := tw_lt n l
  split
  · rename_i h
    rw [h, List.append_nil] at hs
    unfold Rising
    rw [List.pairwise_append]
    refine ⟨hl, List.pairwise_singleton _ _, fun a ha b hb => ?_⟩
    rw [List.mem_singleton.1 hb]
    exact ht a (hs ▸ ha)
  · rename_i a r h
    have ha := dw_head n l a r h
    rw [h] at hs
    split
    · exact hl
    · rename_i hne
      generalize l.takeWhile (fun a => decide (a < n)) = p at hs ht
      subst hs
      unfold Rising at hl ⊢
      rw [List.pairwise_append] at hl ⊢
      obtain ⟨h1, h2, h3⟩ := hl
      refine ⟨h1, ?_, fun x hx y hy => ?_⟩
      · rw [List.pairwise_cons]
        refine ⟨fun y hy => ?_, h2⟩
        rw [List.pairwise_cons] at h2
        rcases List.mem_cons.1 hy with rfl | hy
        · omega
        · have := h2.1 y hy; omega
      · rcases List.mem_cons.1 hy with rfl | hy
        · exact ht x hx
        · exact h3 x hx y hy
theorem length_ins (n : Int) (l : List Int) : (ins n l).length ≤ l.length + 1 := by
  unfold ins
  split
  · simp
  · rename_i a r h
    have hs := congrArg List.length (ins_split n l)
    rw [h] at hs
    split
    · omega
    · simp only [List.length_append, List.length_cons] at hs ⊢
      omega
/-- The cuts of one set, put to others. -/
def cutS : List Int → List S33 → List Int
  | b, [] => b
  | b, s :: r => if s.f0 > s.f1 then cutS b r else if s.f1 < 4294967295 then cutS (ins (s.f1 + 1) (ins s.f0 b)) r else cutS (ins s.f0 b) r
def cutL : List Int → List (List S33) → List Int
  | b, [] => b
  | b, l :: r => cutL (cutS b l) r
def IsCut (l : List S33) (x : Int) : Prop := ∃ s ∈ l, s.f0 ≤ s.f1 ∧ (x = s.f0 ∨ s.f1 < 4294967295 ∧ x = s.f1 + 1)
theorem IsCut_cons (s : S33) (l : List S33) (x : Int) : IsCut (s :: l) x ↔ (s.f0 ≤ s.f1 ∧ (x = s.f0 ∨ s.f1 < 4294967295 ∧ x = s.f1 + 1)) ∨ IsCut l x := by
  unfold IsCut
  constructor
  · rintro ⟨z, hz, h⟩
    rcases List.mem_cons.1 hz with rfl | hz
    · exact .inl h
    · exact .inr ⟨z, hz, h⟩
  · rintro (h | ⟨z, hz, h⟩)
    · exact ⟨s, List.mem_cons_self, h⟩
    · exact ⟨z, List.mem_cons_of_mem _ hz, h⟩
theorem cutS_spec : ∀ (l : List S33) (b : List Int), Rising b → Rising (cutS b l) ∧ (∀ x, x ∈ cutS b l ↔ x ∈ b ∨ IsCut l x) ∧ (cutS b l).length ≤ b.length + 2 * l.length
  | [], b, hb => ⟨hb, fun x => by simp [cutS, IsCut], by simp [cutS]⟩
  | s :: r, b, hb => by
    unfold cutS
    by_cases h1 : s.f0 > s.f1
    · rw [if_pos h1]
      obtain ⟨q1, q2, q3⟩ := cutS_spec r b hb
      refine ⟨q1, fun x => ?_, by simp only [List.length_cons]; omega⟩
      rw [q2, IsCut_cons]
      have : ¬ (s.f0 ≤ s.f1) := by omega
      simp [this]
    · rw [if_neg h1]
      have h1' : s.f0 ≤ s.f1 := by omega
      have l1 := length_ins s.f0 b
      by_cases h2 : s.f1 < 4294967295
      · rw [if_pos h2]
        have l2 := length_ins (s.f1 + 1) (ins s.f0 b)
        obtain ⟨q1, q2, q3⟩ := cutS_spec r _ (rising_ins (s.f1 + 1) _ (rising_ins s.f0 b hb))
        refine ⟨q1, fun x => ?_, by simp only [List.length_cons]; omega⟩
        rw [q2, IsCut_cons, mem_ins, mem_ins]
        constructor
        · rintro ((h | h | h) | h)
          · exact .inr (.inl ⟨h1', .inr ⟨h2, h⟩⟩)
          · exact .inr (.inl ⟨h1', .inl h⟩)
          · exact .inl h
          · exact .inr (.inr h)
        · rintro (h | ⟨_, h | ⟨_, h⟩⟩ | h)
          · exact .inl (.inr (.inr h))
          · exact .inl (.inr (.inl h))
          · exact .inl (.inl h)
          · exact .inr h
      · rw [if_neg h2]
        obtain ⟨q1, q2, q3⟩ := cutS_spec r _ (rising_ins s.f0 b hb)
        refine ⟨q1, fun x => ?_, by simp only [List.length_cons]; omega⟩
        rw [q2, IsCut_cons, mem_ins]
        constructor
        · rintro ((h | h) | h)
          · exact .inr (.inl ⟨h1', .inl h⟩)
          · exact .inl h
          · exact .inr (.inr h)
        · rintro (h | ⟨_, h | ⟨h, _⟩⟩ | h)
          · exact .inl (.inr h)
          · exact .inl (.inl h)
          · exact absurd h h2
          · exact .inr h
theorem cutL_spec : ∀ (L : List (List S33)) (b : List Int), Rising b → Rising (cutL b L) ∧ (∀ x, x ∈ cutL b L ↔ x ∈ b ∨ ∃ l ∈ L, IsCut l x)
  | [], b, hb => ⟨hb, fun x => by simp [cutL]⟩
  | l :: r, b, hb => by
    obtain ⟨p1, p2, _⟩ := cutS_spec l b hb
    obtain ⟨q1, q2⟩ := cutL_spec r _ p1
    refine ⟨q1, fun x => ?_⟩
    rw [cutL, q2, p2]
    constructor
    · rintro ((h | h) | ⟨z, hz, h⟩)
      · exact .inl h
      · exact .inr ⟨l, List.mem_cons_self, h⟩
      · exact .inr ⟨z, List.mem_cons_of_mem _ hz, h⟩
    · rintro (h | ⟨z, hz, h⟩)
      · exact .inl (.inl h)
      · rcases List.mem_cons.1 hz with rfl | hz
        · exact .inl (.inr h)
        · exact .inr ⟨z, hz, h⟩
/-- Between two cuts a set has all numbers or none. -/
theorem in_at_cut (l : List S33) (c x : Int) (hr : Rng l) (hcx : c ≤ x) (hxm : x ≤ 4294967295) (h : ∀ z, IsCut l z → z ≤ x → z ≤ c) : InS l x = InS l c := by
  rw [Bool.eq_iff_iff, InS_iff, InS_iff]
  constructor
  · rintro ⟨s, hs, h0, h1⟩
    have h2 := h s.f0 ⟨s, hs, by omega, .inl rfl⟩ h0
    exact ⟨s, hs, h2, by omega⟩
  · rintro ⟨s, hs, h0, h1⟩
    refine ⟨s, hs, by omega, ?_⟩
    by_cases h3 : x ≤ s.f1
    · exact h3
    · have h4 := h (s.f1 + 1) ⟨s, hs, by omega, .inr ⟨?_, rfl⟩⟩ (by omega)
      · omega
      · by_cases h5 : s.f1 < 4294967295
        · exact h5
        · omega
/-- Pieces: where each begins, and whether it is asked for. -/
def pieceIn : List (Int × Bool) → Int → Bool
  | [], _ => false
  | (n, f) :: r, x => if x < n then false else match r with
    | [] => f && decide (x ≤ 4294967295)
    | (m, g) :: r' => if x < m then f else pieceIn ((m, g) :: r') x
def endOf : List (Int × Bool) → Int
  | [] => 4294967295
  | (m, _) :: _ => m - 1
def setEnd (out : List S33) (e : Int) : List S33 := match out.getLast? with | none => [] | some x => out.dropLast ++ [⟨x.f0, e⟩]
def fromL : Bool → List S33 → List (Int × Bool) → List S33
  | _, out, [] => out
  | prev, out, (n, f) :: r => if f then (if prev then fromL true (setEnd out (endOf r)) r else fromL true (out ++ [⟨n, endOf r⟩]) r) else fromL false out r
theorem endOf_ge (n : Int) (r : List (Int × Bool)) (hn : n ≤ 4294967295) (h : ∀ q ∈ r, n < q.1) : n ≤ endOf r := by
  cases r with
  | nil => exact hn
  | cons q r => have := h q List.mem_cons_self; obtain ⟨m, g⟩ := q; show n ≤ m - 1; omega
theorem endOf_le (r : List (Int × Bool)) (h : ∀ q ∈ r, q.1 ≤ 4294967295) : endOf r ≤ 4294967295 := by
  cases r with
  | nil => exact Int.le_refl _
  | cons q r => have := h q List.mem_cons_self; obtain ⟨m, g⟩ := q; show m - 1 ≤ 4294967295; omega
theorem pieceIn_lt (m : Int) (g : Bool) (r : List (Int × Bool)) (y : Int) (h : y < m) : pieceIn ((m, g) :: r) y = false := by
  unfold pieceIn
  rw [if_pos h]
theorem pieceIn_cons (n : Int) (f : Bool) (r : List (Int × Bool)) (y : Int) (h : ∀ q ∈ r, n < q.1) : pieceIn ((n, f) :: r) y = ((f && decide (n ≤ y) && decide (y ≤ endOf r)) || pieceIn r y) := by
  cases r with
  | nil =>
    simp only [pieceIn, endOf, Bool.or_false]
    by_cases h1 : y < n
    · have : ¬ n ≤ y := by omega
      simp [h1, this]
    · have : n ≤ y := by omega
      simp [h1, this]
      try rfl
  | cons q r =>
    obtain ⟨m, g⟩ := q
    have hm : n < m := h (m, g) List.mem_cons_self
    have he : endOf ((m, g) :: r) = m - 1 := rfl
    rw [he, pieceIn]
    by_cases h1 : y < n
    · have h2 : ¬ n ≤ y := by omega
      rw [if_pos h1, pieceIn_lt m g r y (by omega)]
      simp [h2]
    · have h2 : n ≤ y := by omega
      rw [if_neg h1]
      by_cases h3 : y < m
      · have h4 : y ≤ m - 1 := by omega
        rw [if_pos h3, pieceIn_lt m g r y h3]
        simp [h2, h4]
      · have h4 : ¬ y ≤ m - 1 := by omega
        rw [if_neg h3]
        simp [h4]
theorem setEnd_snoc (p : List S33) (x : S33) (e : Int) : setEnd (p ++ [x]) e = p ++ [⟨x.f0, e⟩] := by unfold setEnd; simp
theorem fromL_spec : ∀ (ps : List (Int × Bool)) (prev : Bool) (out : List S33), ps.Pairwise (fun a b => a.1 < b.1) → (∀ q ∈ ps, 0 ≤ q.1 ∧ q.1 ≤ 4294967295) → NF out →
    (prev = true → ∃ p x, out = p ++ [x] ∧ ∀ n f r, ps = (n, f) :: r → x.f1 + 1 = n) → (prev = false → ∀ x ∈ out, ∀ n f r, ps = (n, f) :: r → x.f1 + 1 < n) →
    NF (fromL prev out ps) ∧ ∀ y, InS (fromL prev out ps) y = (InS out y || pieceIn ps y)
  | [], prev, out, _, _, ho, _, _ => ⟨ho, fun y => by simp [fromL, pieceIn]⟩
  | (n, f) :: r, prev, out, hp, hr, ho, h1, h2 => by
    rw [List.pairwise_cons] at hp
    have hn := hr (n, f) List.mem_cons_self
    have hrr : ∀ q ∈ r, 0 ≤ q.1 ∧ q.1 ≤ 4294967295 := fun q hq => hr q (List.mem_cons_of_mem _ hq)
    have he1 := endOf_ge n r hn.2 hp.1
    have he2 := endOf_le r (fun q hq => (hrr q hq).2)
    have hnext : ∀ m g r', r = (m, g) :: r' → endOf r + 1 = m := fun m g r' h => by subst h; show m - 1 + 1 = m; omega
    have hm : ∀ m g r', r = (m, g) :: r' → n < m := fun m g r' h => hp.1 (m, g) (h ▸ List.mem_cons_self)
    have hpc := fun y => pieceIn_cons n f r y hp.1
    generalize hE : endOf r = e at he1 he2 hnext hpc
    cases f with
    | true =>
      cases prev with
      | true =>
        obtain ⟨p, x, rfl, hx⟩ := h1 rfl
        have hx := hx n true r rfl
        obtain ⟨q1, q2, q3⟩ := NF_snoc.1 ho
        unfold Ok at q2
        simp only [fromL, if_true, hE]
        rw [setEnd_snoc]
        obtain ⟨k1, k2⟩ := fromL_spec r true (p ++ [⟨x.f0, e⟩]) hp.2 hrr (NF_snoc.2 ⟨q1, ⟨q2.1, by show x.f0 ≤ e; omega, he2⟩, q3⟩) (fun _ => ⟨p, _, rfl, hnext⟩) (fun h => by cases h)
        refine ⟨k1, fun y => ?_⟩
        rw [k2, hpc, InS_append, InS_append, ← Bool.or_assoc]
        congr 1
        rw [Bool.or_assoc]
        congr 1
        simp only [InS, List.any_cons, List.any_nil, Bool.or_false, inSpan, Bool.true_and]
        rw [Bool.eq_iff_iff]
        simp only [Bool.or_eq_true, Bool.and_eq_true, decide_eq_true_eq]
        omega
      | false =>
        have h2 := fun x hx => h2 rfl x hx n true r rfl
        have hf : fromL false out ((n, true) :: r) = fromL true (out ++ [⟨n, e⟩]) r := by rw [fromL, hE]; rfl
        rw [hf]
        obtain ⟨k1, k2⟩ := fromL_spec r true (out ++ [⟨n, e⟩]) hp.2 hrr (NF_snoc.2 ⟨ho, ⟨hn.1, he1, he2⟩, h2⟩) (fun _ => ⟨out, _, rfl, hnext⟩) (fun h => by cases h)
        refine ⟨k1, fun y => ?_⟩
        rw [k2, hpc, InS_append, ← Bool.or_assoc]
        congr 2
        simp [InS, inSpan]
    | false =>
      have hf : fromL prev out ((n, false) :: r) = fromL false out r := by rw [fromL]; rfl
      rw [hf]
      obtain ⟨k1, k2⟩ := fromL_spec r false out hp.2 hrr ho (fun h => by cases h) (fun _ x hx m g r' hr' => by
        have hmm := hm m g r' hr'
        cases prev with
        | true =>
          obtain ⟨p, z, rfl, hz⟩ := h1 rfl
          have hz := hz n false r rfl
          obtain ⟨q1, q2, q3⟩ := NF_snoc.1 ho
          unfold Ok at q2
          rcases List.mem_append.1 hx with hx | hx
          · have := q3 x hx; omega
          · rw [List.mem_singleton.1 hx]; omega
        | false => have := h2 rfl x hx n false r rfl; omega)
      refine ⟨k1, fun y => ?_⟩
      rw [k2, hpc]
      simp
theorem pieceIn_at (g : Int → Bool) : ∀ (b : List Int) (n x : Int), Rising (n :: b) → n ≤ x → x ≤ 4294967295 →
    ∃ c ∈ n :: b, c ≤ x ∧ (∀ z ∈ n :: b, z ≤ x → z ≤ c) ∧ pieceIn ((n :: b).map (fun n => (n, g n))) x = g c
  | [], n, x, _, h0, h1 => ⟨n, List.mem_cons_self, h0, fun z hz _ => by rw [List.mem_singleton.1 hz]; exact Int.le_refl _, by
      have : ¬ x < n := by omega
      simp [pieceIn, this, h1]⟩
  | m :: b, n, x, hb, h0, h1 => by
    unfold Rising at hb
    rw [List.pairwise_cons] at hb
    have hnm := hb.1 m List.mem_cons_self
    have hx : ¬ x < n := by omega
    by_cases hxm : x < m
    · refine ⟨n, List.mem_cons_self, h0, fun z hz hzx => ?_, by simp [pieceIn, hx, hxm]⟩
      rcases List.mem_cons.1 hz with rfl | hz
      · exact Int.le_refl _
      · rcases List.mem_cons.1 hz with rfl | hz
        · omega
        · have := (List.pairwise_cons.1 hb.2).1 z hz; omega
    · obtain ⟨c, hc, c1, c2, c3⟩ := pieceIn_at g b m x hb.2 (by omega) h1
      refine ⟨c, List.mem_cons_of_mem _ hc, c1, fun z hz hzx => ?_, ?_⟩
      · rcases List.mem_cons.1 hz with rfl | hz
        · have := hb.1 c hc; omega
        · exact c2 z hz hzx
      · rw [← c3]
        simp [pieceIn, hx, hxm]
theorem pieceIn_out (g : Int → Bool) (x : Int) : ∀ (b : List Int), (∀ z ∈ b, 0 ≤ z ∧ z ≤ 4294967295) → Rising b → (x < 0 ∨ 4294967295 < x) → pieceIn (b.map (fun n => (n, g n))) x = false
  | [], _, _, _ => rfl
  | n :: b, h, hb, hx => by
    unfold Rising at hb
    rw [List.pairwise_cons] at hb
    have hn := h n List.mem_cons_self
    have hq : ∀ q ∈ b.map (fun n => (n, g n)), n < q.1 := fun q hq => by
      obtain ⟨z, hz, rfl⟩ := List.mem_map.1 hq
      exact hb.1 z hz
    have hq2 : ∀ q ∈ b.map (fun n => (n, g n)), q.1 ≤ 4294967295 := fun q hq => by
      obtain ⟨z, hz, rfl⟩ := List.mem_map.1 hq
      exact (h z (List.mem_cons_of_mem _ hz)).2
    rw [List.map_cons, pieceIn_cons n (g n) _ x hq, pieceIn_out g x b (fun z hz => h z (List.mem_cons_of_mem _ hz)) hb.2 hx, Bool.or_false]
    have he := endOf_le _ hq2
    rcases hx with hx | hx
    · have : ¬ n ≤ x := by omega
      simp [this]
    · have : ¬ x ≤ endOf (b.map (fun n => (n, g n))) := by omega
      simp [this]
/-- What the document's Set gives: the set's one form, by what is in the two. -/
theorem setL_spec (op : Bool → Bool → Bool) (a c : List S33) (ha : Rng a) (hc : Rng c) :
    NF (fromL false [] ((cutL [0] [a, c]).map (fun n => (n, op (InS a n) (InS c n))))) ∧
    ∀ x, InS (fromL false [] ((cutL [0] [a, c]).map (fun n => (n, op (InS a n) (InS c n))))) x = (decide (0 ≤ x) && decide (x ≤ 4294967295) && op (InS a x) (InS c x)) := by
  obtain ⟨hr, hm⟩ := cutL_spec [a, c] [0] (List.pairwise_singleton _ _)
  have hm' : ∀ x, x ∈ cutL [0] [a, c] ↔ x = 0 ∨ IsCut a x ∨ IsCut c x := fun x => by rw [hm]; simp
  have hrng : ∀ x ∈ cutL [0] [a, c], 0 ≤ x ∧ x ≤ 4294967295 := fun x hx => by
    rcases (hm' x).1 hx with rfl | ⟨s, hs, h1, h2⟩ | ⟨s, hs, h1, h2⟩
    · omega
    · have := ha s hs; omega
    · have := hc s hs; omega
  have h0 : (0 : Int) ∈ cutL [0] [a, c] := (hm' 0).2 (.inl rfl)
  generalize cutL [0] [a, c] = b at hr hm' hrng h0
  obtain ⟨k1, k2⟩ := fromL_spec (b.map (fun n => (n, op (InS a n) (InS c n)))) false [] (by
      rw [List.pairwise_map]
      exact hr) (fun q hq => by
      obtain ⟨z, hz, rfl⟩ := List.mem_map.1 hq
      exact hrng z hz) NF_nil (fun h => by cases h) (fun _ x hx => (List.not_mem_nil hx).elim)
  refine ⟨k1, fun x => ?_⟩
  rw [k2, InS_nil, Bool.false_or]
  by_cases hx : 0 ≤ x ∧ x ≤ 4294967295
  · have hd : (decide (0 ≤ x) && decide (x ≤ 4294967295)) = true := by simp [hx.1, hx.2]
    rw [hd, Bool.true_and]
    cases b with
    | nil => simp at h0
    | cons n b =>
      have hn0 : n = 0 := by
        unfold Rising at hr
        rw [List.pairwise_cons] at hr
        rcases List.mem_cons.1 h0 with h | h
        · exact h.symm
        · have := hr.1 0 h
          have := hrng n List.mem_cons_self
          omega
      subst hn0
      obtain ⟨z, hz, z1, z2, z3⟩ := pieceIn_at (fun n => op (InS a n) (InS c n)) b 0 x hr hx.1 hx.2
      rw [z3, in_at_cut a z x ha z1 hx.2 (fun y hy hyx => z2 y ((hm' y).2 (.inr (.inl hy))) hyx), in_at_cut c z x hc z1 hx.2 (fun y hy hyx => z2 y ((hm' y).2 (.inr (.inr hy))) hyx)]
  · rw [pieceIn_out _ x b hrng hr (by omega)]
    by_cases h1 : 0 ≤ x
    · have : ¬ x ≤ 4294967295 := by omega
      simp [this]
    · simp [h1]
end Go.Proofs.Ytconaifcjnpabaa.P

namespace Go.Proofs.Ytconaifcjnpabaa.P
open Go.RowKit Go.Proofs.YtconaifcjnpabaaW.PrintWords Go.Proofs.YtconaifcjnpabaaW.PrintMore
set_option linter.unusedVariables false
set_option linter.unusedSimpArgs false
theorem wr (i : Int) (h0 : -9223372036854775808 ≤ i) (h1 : i ≤ 9223372036854775807) : wrap64 i = i := by unfold wrap64; omega
theorem wr1 (i : Nat) (h : i < 1000000000) : wrap64 ((i : Int) + 1) = ((i + 1 : Nat) : Int) := by rw [wr _ (by omega) (by omega)]; omega
theorem rdS (l : List S33) (i : Nat) (h : i < l.length) : rd_T33 l (i : Int) = l[i] := by
  unfold rd_T33
  rw [Int.toNat_natCast, List.getD_eq_getElem?_getD, List.getElem?_eq_getElem h]
  rfl
theorem rdI (l : List Int) (i : Nat) (h : i < l.length) : rd l (i : Int) = l[i] := by
  unfold rd
  rw [Int.toNat_natCast, List.getD_eq_getElem?_getD, List.getElem?_eq_getElem h]
  rfl
theorem S33_eta (s : S33) : (⟨s.f0, s.f1⟩ : S33) = s := rfl
def okB (s : S33) : Bool := decide (s.f0 ≤ s.f1)

theorem norm_l1 (t : List S33) (ht : t.length ≤ 1000000) (htr : Rng t) : ∀ (d i : Nat) (out : List S33), i + d = t.length → out.length + d ≤ 1000000 → (∀ s ∈ out, 0 ≤ s.f1 ∧ s.f1 ≤ 4294967295) →
    Ev (fun k => q1z.l1 k out t (t.length : Int) (i : Int)) (mergeAll out (t.drop i))
  | 0, i, out, hi, _, _ => by
    refine Ev.step (f := fun _ => some out) (fun k => ?_) ?_
    · simp only [q1z.l1]
      rw [if_neg (by omega)]
    · rw [List.drop_eq_nil_of_le (by omega)]
      exact Ev.now out
  | d + 1, i, out, hi, ho, hr => by
    have hil : i < t.length := by omega
    rw [List.drop_eq_getElem_cons hil]
    have hs := htr t[i] (List.getElem_mem hil)
    generalize hq : t[i] = s at hs
    have hrd : rd_T33 t (i : Int) = s := by rw [rdS t i hil, hq]
    have hlen : ∀ o : List S33, o.length ≤ out.length + 1 → o.length + d ≤ 1000000 := fun o h => by omega
    rw [mergeAll]
    rcases List.eq_nil_or_concat out with rfl | ⟨p, x, rfl⟩
    · rw [mergeStep_nil]
      refine Ev.step (fun k => ?_) (norm_l1 t ht htr d (i + 1) [s] (by omega) (by simp; omega) (fun z hz => by rw [List.mem_singleton.1 hz]; omega))
      simp only [q1z.l1]
      rw [if_pos (by omega), if_pos (by omega), if_pos (by omega), if_neg (by simp), if_pos (by simp), hrd, wr1 i (by omega)]
      rfl
    · simp only [List.concat_eq_append] at *
      have hx := hr x (by simp)
      have hpl : (p ++ [x]).length = p.length + 1 := by simp
      have hl1 : wrap64 (((p ++ [x]).length : Int) - 1) = (p.length : Int) := by
        rw [List.length_append, List.length_singleton, wr _ (by omega) (by omega)]; omega
      have hrx : rd_T33 (p ++ [x]) (p.length : Int) = x := by rw [rdS _ _ (by simp)]; simp
      have hset : ∀ y : S33, (p ++ [x]).set (p.length : Int).toNat y = p ++ [y] := fun y => by rw [Int.toNat_natCast]; simp
      have hlp : ((p ++ [x]).length : Int) > 0 := by rw [List.length_append, List.length_singleton]; omega
      have hlq : (p.length : Int) < ((p ++ [x]).length : Int) := by rw [List.length_append, List.length_singleton]; omega
      have hmx : 0 ≤ mx x.f1 s.f1 ∧ mx x.f1 s.f1 ≤ 4294967295 := by unfold mx; split <;> omega
      rw [mergeStep_snoc]
      by_cases hM : x.f1 = 4294967295
      · rw [if_pos (.inl hM)]
        refine Ev.step (fun k => ?_) (norm_l1 t ht htr d (i + 1) (p ++ [⟨x.f0, mx x.f1 s.f1⟩]) (by omega) (hlen _ (by simp)) (fun z hz => ?_))
        · simp only [q1z.l1]
          rw [if_pos (by omega), if_pos (by omega), if_pos (by omega), if_pos hlp, hl1, if_pos (by omega), if_pos hlq, hrx, if_pos hM, hset, hrd, wr1 i (by omega)]
        · rcases List.mem_append.1 hz with hz | hz
          · exact hr z (List.mem_append_left _ hz)
          · rw [List.mem_singleton.1 hz]; exact hmx
      · have hmod : (x.f1 + 1) % 4294967296 = x.f1 + 1 := by omega
        by_cases hc : s.f0 ≤ x.f1 + 1
        · rw [if_pos (.inr hc)]
          refine Ev.step (fun k => ?_) (norm_l1 t ht htr d (i + 1) (p ++ [⟨x.f0, mx x.f1 s.f1⟩]) (by omega) (hlen _ (by simp)) (fun z hz => ?_))
          · simp only [q1z.l1]
            rw [if_pos (by omega), if_pos (by omega), if_pos (by omega), if_pos hlp, hl1, if_pos (by omega), if_pos hlq, hrx, if_neg hM, hmod, hrd, if_pos hc, hset, wr1 i (by omega)]
          · rcases List.mem_append.1 hz with hz | hz
            · exact hr z (List.mem_append_left _ hz)
            · rw [List.mem_singleton.1 hz]; exact hmx
        · rw [if_neg (by rw [not_or]; exact ⟨hM, hc⟩)]
          refine Ev.step (fun k => ?_) (norm_l1 t ht htr d (i + 1) ((p ++ [x]) ++ [s]) (by omega) (hlen _ (by simp)) (fun z hz => ?_))
          · simp only [q1z.l1]
            rw [if_pos (by omega), if_pos (by omega), if_pos (by omega), if_pos hlp, hl1, if_pos (by omega), if_pos hlq, hrx, if_neg hM, hmod, hrd, if_neg hc, if_pos (by have := hlen (p ++ [x]) (by omega); omega), wr1 i (by omega)]
          · rcases List.mem_append.1 hz with hz | hz
            · exact hr z hz
            · rw [List.mem_singleton.1 hz]; omega

theorem norm_l0 (l : List S33) (hl : l.length ≤ 1000000) (r : List S33) : ∀ (d i : Nat) (acc : List S33), i + d = l.length → acc.length ≤ i →
    Ev (fun k => (SortFunc_Span.f (acc ++ (l.drop i).filter okB)).bind fun t => q1z.l1 k [] t ((acc ++ (l.drop i).filter okB).length : Int) 0) r →
    Ev (fun k => q1z.l0 k acc l (l.length : Int) (i : Int)) r
  | 0, i, acc, hi, _, h => by
    refine Ev.step (fun k => ?_) h
    simp only [q1z.l0]
    rw [if_neg (by omega), List.drop_eq_nil_of_le (by omega), List.filter_nil, List.append_nil]
  | d + 1, i, acc, hi, ha, h => by
    have hil : i < l.length := by omega
    rw [List.drop_eq_getElem_cons hil] at h
    have hrd : rd_T33 l (i : Int) = l[i] := rdS l i hil
    by_cases hc : l[i].f0 ≤ l[i].f1
    · rw [List.filter_cons_of_pos (by simpa [okB] using hc)] at h
      refine Ev.step (fun k => ?_) (norm_l0 l hl r d (i + 1) (acc ++ [l[i]]) (by omega) (by simp; omega) (by rw [List.append_assoc, List.singleton_append]; exact h))
      simp only [q1z.l0]
      rw [if_pos (by omega), if_pos (by omega), if_pos (by omega), hrd, if_pos hc, if_pos (by omega), wr1 i (by omega)]
    · rw [List.filter_cons_of_neg (by simpa [okB] using hc)] at h
      refine Ev.step (fun k => ?_) (norm_l0 l hl r d (i + 1) acc (by omega) (by omega) h)
      simp only [q1z.l0]
      rw [if_pos (by omega), if_pos (by omega), if_pos (by omega), hrd, if_neg hc, wr1 i (by omega)]

theorem InS_perm {a b : List S33} (h : a.Perm b) (n : Int) : InS a n = InS b n := by
  rw [Bool.eq_iff_iff, InS_iff, InS_iff]
  exact ⟨fun ⟨s, hs, q⟩ => ⟨s, h.mem_iff.1 hs, q⟩, fun ⟨s, hs, q⟩ => ⟨s, h.mem_iff.2 hs, q⟩⟩
theorem InS_filter (l : List S33) (n : Int) : InS (l.filter okB) n = InS l n := by
  rw [Bool.eq_iff_iff, InS_iff, InS_iff]
  refine ⟨fun ⟨s, hs, q⟩ => ⟨s, (List.mem_filter.1 hs).1, q⟩, fun ⟨s, hs, q⟩ => ⟨s, List.mem_filter.2 ⟨hs, by simp [okB]; omega⟩, q⟩⟩
theorem mergeStep_length (out : List S33) (s : S33) : (mergeStep out s).length ≤ out.length + 1 := by
  rcases List.eq_nil_or_concat out with rfl | ⟨p, x, rfl⟩
  · simp [mergeStep]
  · rw [List.concat_eq_append, mergeStep_snoc]
    split <;> simp
theorem mergeAll_length : ∀ (t out : List S33), (mergeAll out t).length ≤ out.length + t.length
  | [], out => by simp [mergeAll]
  | s :: r, out => by
    have h1 := mergeAll_length r (mergeStep out s)
    have h2 := mergeStep_length out s
    rw [mergeAll, List.length_cons]
    omega

/-- span.Norm: the set's one form. -/
theorem norm_ev (l : List S33) (hl : l.length ≤ 1000000) (hr : Rng l) : ∃ r, Ev (fun k => q1z.f k l) r ∧ NF r ∧ (∀ n, InS r n = InS l n) ∧ r.length ≤ l.length := by
  have hfl : (l.filter okB).length ≤ l.length := List.length_filter_le _ _
  obtain ⟨t, ht, hp, hs⟩ := sortFunc_Span_sorts (l.filter okB) (by omega)
  have htl : t.length = (l.filter okB).length := hp.length_eq
  have hmem : ∀ s ∈ t, s ∈ l ∧ s.f0 ≤ s.f1 := fun s hs => by
    have := List.mem_filter.1 (hp.mem_iff.1 hs)
    exact ⟨this.1, by simpa [okB] using this.2⟩
  have hok : ∀ s ∈ t, Ok s := fun s hs => by
    have h1 := hmem s hs
    have h2 := hr s h1.1
    unfold Ok
    omega
  obtain ⟨h1, h2⟩ := mergeAll_nf t [] NF_nil hok hs (fun x hx => (List.not_mem_nil hx).elim)
  refine ⟨mergeAll [] t, ?_, h1, fun n => ?_, ?_⟩
  · have h3 := norm_l1 t (by omega) (fun s hs => hr s (hmem s hs).1) t.length 0 [] (by omega) (by simp; omega) (fun s hs => (List.not_mem_nil hs).elim)
    refine Ev.congr (fun k => rfl) (norm_l0 l hl _ l.length 0 [] (by omega) (Nat.zero_le _) ?_)
    simp only [List.nil_append, List.drop_zero, ht, Option.bind_some]
    rw [← htl]
    exact h3
  · rw [h2, InS_nil, Bool.false_or, InS_perm hp, InS_filter]
  · have := mergeAll_length t []
    simp only [List.length_nil] at this
    omega

theorem not_l0 (t : List S33) (ht : t.length ≤ 1000000) (hn : NF t) : ∀ (d i : Nat) (acc : List S33) (f : Int), i + d = t.length → acc.length ≤ i → 0 ≤ f → f ≤ 4294967295 → (∀ s ∈ t.drop i, f ≤ s.f0) →
    Ev (fun k => q11z.l0 k acc f t (t.length : Int) (i : Int)) (acc ++ notL f (t.drop i))
  | 0, i, acc, f, hi, ha, _, _, _ => by
    refine Ev.step (f := fun _ => some (acc ++ [(⟨f, 4294967295⟩ : S33)])) (fun k => ?_) ?_
    · simp only [q11z.l0]
      rw [if_neg (by omega), if_pos (by omega)]
    · rw [List.drop_eq_nil_of_le (by omega)]
      exact Ev.now _
  | d + 1, i, acc, f, hi, ha, hf0, hf1, hf => by
    have hil : i < t.length := by omega
    rw [List.drop_eq_getElem_cons hil] at hf ⊢
    have hs : Ok t[i] := hn.1 _ (List.getElem_mem hil)
    have hrd : rd_T33 t (i : Int) = t[i] := rdS t i hil
    have hfi := hf t[i] List.mem_cons_self
    have hgap : ∀ s ∈ t.drop (i + 1), t[i].f1 + 1 ≤ s.f0 := fun s hs => by
      have h1 := hn.2
      rw [← List.take_append_drop i t, List.pairwise_append] at h1
      have h2 := h1.2.1
      rw [List.drop_eq_getElem_cons hil, List.pairwise_cons] at h2
      have := h2.1 s hs
      omega
    generalize t[i] = s at hs hrd hfi hgap
    unfold Ok at hs
    by_cases hg : s.f0 > f
    · have hm1 : (s.f0 - 1) % 4294967296 = s.f0 - 1 := by omega
      by_cases hM : s.f1 = 4294967295
      · simp only [notL, if_pos hg, if_pos hM, List.append_nil]
        refine Ev.step (f := fun _ => some (acc ++ [(⟨f, s.f0 - 1⟩ : S33)])) (fun k => ?_) (Ev.now _)
        simp only [q11z.l0]
        rw [if_pos (by omega), if_pos (by omega), if_pos (by omega), hrd, if_pos hg, if_pos (by omega), Option.bind_some, if_pos hM, hm1]
      · have hm2 : (s.f1 + 1) % 4294967296 = s.f1 + 1 := by omega
        simp only [notL, if_pos hg, if_neg hM]
        rw [← List.append_assoc]
        refine Ev.step (fun k => ?_) (not_l0 t ht hn d (i + 1) (acc ++ [(⟨f, s.f0 - 1⟩ : S33)]) (s.f1 + 1) (by omega) (by simp; omega) (by omega) (by omega) hgap)
        simp only [q11z.l0]
        rw [if_pos (by omega), if_pos (by omega), if_pos (by omega), hrd, if_pos hg, if_pos (by omega), Option.bind_some, if_neg hM, hm1, hm2, wr1 i (by omega)]
    · by_cases hM : s.f1 = 4294967295
      · simp only [notL, if_neg hg, if_pos hM, List.append_nil, List.nil_append]
        refine Ev.step (f := fun _ => some acc) (fun k => ?_) (Ev.now _)
        simp only [q11z.l0]
        rw [if_pos (by omega), if_pos (by omega), if_pos (by omega), hrd, if_neg hg, if_pos hM]
      · have hm2 : (s.f1 + 1) % 4294967296 = s.f1 + 1 := by omega
        simp only [notL, if_neg hg, if_neg hM, List.nil_append]
        refine Ev.step (fun k => ?_) (not_l0 t ht hn d (i + 1) acc (s.f1 + 1) (by omega) (by omega) (by omega) (by omega) hgap)
        simp only [q11z.l0]
        rw [if_pos (by omega), if_pos (by omega), if_pos (by omega), hrd, if_neg hg, if_neg hM, hm2, wr1 i (by omega)]
theorem notL_length : ∀ (l : List S33) (f : Int), (notL f l).length ≤ l.length + 1
  | [], f => by simp [notL]
  | s :: r, f => by
    have := notL_length r (s.f1 + 1)
    simp only [notL, List.length_append, List.length_cons]
    split <;> split <;> simp <;> omega
/-- span.Not: what is in none. -/
theorem not_ev (l : List S33) (hl : l.length ≤ 1000000) (hr : Rng l) : ∃ r, Ev (fun k => q11z.f k l) r ∧ NF r ∧ (∀ n, InS r n = (decide (0 ≤ n) && decide (n ≤ 4294967295) && !InS l n)) ∧ r.length ≤ l.length + 1 := by
  obtain ⟨t, h1, h2, h3, h4⟩ := norm_ev l hl hr
  obtain ⟨h5, _, h6⟩ := notL_nf t 0 (Int.le_refl _) (by decide) h2 (fun s hs => (h2.1 s hs).1)
  refine ⟨notL 0 t, ?_, h5, fun n => by rw [h6, h3], Nat.le_trans (notL_length t 0) (by omega)⟩
  refine Ev.bind h1 (f := fun k t => q11z.l0 k [] 0 t (t.length : Int) 0) ?_
  exact not_l0 t (by omega) h2 t.length 0 [] 0 (by omega) (Nat.zero_le _) (Int.le_refl _) (by decide) (fun s hs => (h2.1 s (List.drop_subset _ _ hs)).1)

theorem refIn_l0 (n : Int) (l : List S33) (hl : l.length ≤ 1000000) : ∀ (d i : Nat), i + d = l.length → Ev (fun k => q5z.l0 k n l (l.length : Int) (i : Int)) (InS (l.drop i) n)
  | 0, i, hi => by
    refine Ev.step (f := fun _ => some false) (fun k => ?_) ?_
    · simp only [q5z.l0]
      rw [if_neg (by omega)]
    · rw [List.drop_eq_nil_of_le (by omega)]
      exact Ev.now _
  | d + 1, i, hi => by
    have hil : i < l.length := by omega
    rw [List.drop_eq_getElem_cons hil, InS_cons]
    have hrd : rd_T33 l (i : Int) = l[i] := rdS l i hil
    have ih := refIn_l0 n l hl d (i + 1) (by omega)
    by_cases h1 : l[i].f0 ≤ n
    · by_cases h2 : n ≤ l[i].f1
      · have e : (inSpan n l[i] || InS (l.drop (i + 1)) n) = true := by simp [inSpan, h1, h2]
        rw [e]
        refine Ev.step (f := fun _ => some true) (fun k => ?_) (Ev.now _)
        simp only [q5z.l0]
        rw [if_pos (by omega), if_pos (by omega), if_pos (by omega), hrd, if_pos h1, if_pos h2]
      · have e : (inSpan n l[i] || InS (l.drop (i + 1)) n) = InS (l.drop (i + 1)) n := by simp [inSpan, h2]
        rw [e]
        refine Ev.step (fun k => ?_) ih
        simp only [q5z.l0]
        rw [if_pos (by omega), if_pos (by omega), if_pos (by omega), hrd, if_pos h1, if_neg h2, wr1 i (by omega)]
    · have e : (inSpan n l[i] || InS (l.drop (i + 1)) n) = InS (l.drop (i + 1)) n := by simp [inSpan, h1]
      rw [e]
      refine Ev.step (fun k => ?_) ih
      simp only [q5z.l0]
      rw [if_pos (by omega), if_pos (by omega), if_pos (by omega), hrd, if_neg h1, wr1 i (by omega)]
theorem refIn_ev (l : List S33) (n : Int) (hl : l.length ≤ 1000000) : Ev (fun k => q5z.f k l n) (InS l n) := refIn_l0 n l hl l.length 0 (by omega)
theorem in_f (l : List S33) (n : Int) (hl : l.length ≤ 1000000) : span_In.f l n = some (InS l n) := if_pos (by omega)
theorem copy_f (l : List S33) (hl : l.length ≤ 1000000) : q3z.f l = some l := by
  unfold q3z.f
  rw [Option.bind_some, if_pos (by simp; omega), List.nil_append]
theorem same_l0 (a : List S33) (hl : a.length ≤ 1000000) : ∀ (d i : Nat), i + d = a.length → Ev (fun k => q2z.l0 k a a (a.length : Int) (i : Int)) true
  | 0, i, hi => by
    refine Ev.step (f := fun _ => some true) (fun k => ?_) (Ev.now _)
    simp only [q2z.l0]
    rw [if_neg (by omega)]
  | d + 1, i, hi => by
    refine Ev.step (fun k => ?_) (same_l0 a hl d (i + 1) (by omega))
    simp only [q2z.l0]
    rw [if_pos (by omega), if_pos (by omega), if_pos (by omega), if_pos (by omega), if_neg (by simp), wr1 i (by omega)]
theorem same_ev (a : List S33) (hl : a.length ≤ 1000000) : Ev (fun k => q2z.f k a a) true := by
  refine Ev.congr (fun k => ?_) (same_l0 a hl a.length 0 (by omega))
  unfold q2z.f
  rw [if_pos rfl]
  rfl
end Go.Proofs.Ytconaifcjnpabaa.P

namespace Go.Proofs.Ytconaifcjnpabaa.P
open Go.RowKit Go.Proofs.YtconaifcjnpabaaW.PrintWords Go.Proofs.YtconaifcjnpabaaW.PrintLast Go.Proofs.YtconaifcjnpabaaW.PrintMore
attribute [local go_sem] max2_int min2_int max_two min_two max_three min_three max_four min_four
set_option linter.unusedVariables false
set_option linter.unusedSimpArgs false

/-! ### dragomanref01_Norm: function 15 -/
def q19z.f (k : Nat) (l0 : List (S33)) : Option ((List (S33))) := (q10z.f k 1 l0 ([] : List (S33))).bind fun t307 => (some t307)
theorem q19z.mono : ∀ a0 k, LeO (q19z.f k a0) (q19z.f (k + 1) a0) := by
 intro a0 k
 unfold q19z.f
 repeat' first
   | (with_reducible exact q10z.mono _ _ _ _)
   | (with_reducible exact LeO.refl _)
   | (with_reducible exact LeO.none _)
   | (with_reducible refine LeO.ite ?_ ?_)
   | (with_reducible refine LeO.bind ?_ (fun _ => ?_))
   | exact q10z.mono _ _ _ _
   | exact LeO.none _
   | refine LeO.ite ?_ ?_
   | refine LeO.bind ?_ (fun _ => ?_)
set_option maxHeartbeats 8000000 in
set_option maxRecDepth 100000 in
theorem q19z.calls (k : Nat) (A0 : Option Addr) (c0 : Nat) (l0 : List (S33)) (r : List (S33)) (w : World) (hr0 : Kd.C k33 w A0 l0.length l0) (hc0 : l0.length ≤ c0) (h : q19z.f k l0 = some r) :
  Calls Try.prog 15 #[.slice A0 l0.length c0] w fun e w' => ∃ v0_ : Value, e = .returned (v0_) ∧ Kd.R k33 33 w' w.heap.size (fun _ => True) v0_ r ∧ Below w.heap.size w w' := by
 have HR0 := Aside0.mk hr0
 have HC0 := Aside0.mk hc0
 clear hr0 hc0
 have HB := Aside0.mk (Below.refl w.heap.size w)
 have H : ((q10z.f k 1 l0 ([] : List (S33))).bind fun t307 => (some t307)) = some r := h
 clear h
 replace H := Option.bind_eq_some_iff.mp H
 obtain ⟨t307, A20, H⟩ := H
 replace H : (some t307) = some r := H
 have A2 := Aside0.mk A20
 clear A20
 obtain rfl := Option.some.inj H
 go_enter Try.func15, Try.ntmps15
 go_wp2_with (first | ((with_reducible refine gate_callee (f := 20) rfl ?_); refine goesL_ (some 4) rfl rfl Try.func20 (by kernel_rfl) rfl #[.int .i64 1, .slice A0 l0.length c0, .slice none 0 0] rfl (by (try simp only [List.map_toArray, List.map_cons, List.map_nil]); first | done | rfl | (simp only [List.length_drop, List.length_take]; rfl)) ?_; (refine (q10z.calls k 1 (fun k_ => k_ < w.heap.size) _ _ l0 (fun k_ => False) _ _ ([] : List (S33)) t307 _ ?side1 ?side2 A2.out).mono ?_); (case side1 => exact Kd.V_mk HC0.out (Kd.F_below (Kd.C_F k33_heap HR0.out) (by repeat (first | (with_reducible first | exact HB.out | apply below_alloc | apply pw_below_drewN | apply below_drew1) | exact HB.out)))); (case side2 => exact Kd.V_nil _ _ _ _ _); rintro e w3 ⟨v308, rfl, ho0, hb⟩; refine ⟨_, rfl, ?_⟩; have n0_ := Aside0.mk (Kd.R_lower (Kd.R_mono (ok' := fun k_ => True) ho0 (fun _ hk_ => trivial)) (below_size (by repeat (first | (with_reducible first | exact HB.out | apply below_alloc | apply pw_below_drewN | apply below_drew1) | exact HB.out)))); have n1_ := Aside0.mk (below_step (by repeat (first | (with_reducible first | exact HB.out | apply below_alloc | apply pw_below_drewN | apply below_drew1) | exact HB.out)) hb); clear HB; have HO309 := n0_; have HB := n1_; clear n0_ n1_; (try clear hb); (try clear hb2); (try clear hk); (try clear hi); (try clear ho0)))
 go_ret
 exact ⟨_, by first | rfl | (simp [errW_none, errW_some] <;> rfl) | (simp [*, errW_none, errW_some] <;> rfl), by (with_reducible repeat (first | apply Kd.R_alloc | apply Kd.R_drewN | apply Kd.R_drew)); exact HO309.out, by repeat (first | (with_reducible first | exact HB.out | apply below_alloc | apply pw_below_drewN | apply below_drew1) | exact HB.out)⟩

end Go.Proofs.Ytconaifcjnpabaa.P

namespace Go.Proofs.Ytconaifcjnpabaa.P
open Go.RowKit Go.Proofs.YtconaifcjnpabaaW.PrintWords Go.Proofs.YtconaifcjnpabaaW.PrintMore
set_option linter.unusedVariables false
set_option linter.unusedSimpArgs false
theorem wr2 (i : Nat) (h : i < 1000000000) (h0 : 0 < i) : wrap64 ((i : Int) - 1) = ((i - 1 : Nat) : Int) := by rw [wr _ (by omega) (by omega)]; omega
theorem with_l1 (n : Int) (p : List Int) : ∀ (q s : List Int) (z : Int), p.length + q.length + s.length ≤ 1000000 →
    Ev (fun k => q6z.l1 k (p ++ q ++ [z] ++ s) n (p.length : Int) ((p.length + q.length : Nat) : Int)) (p ++ n :: (q ++ s)) := by
  intro q
  induction h : q.length generalizing q with
  | zero =>
    intro s z hl
    have hq : q = [] := List.length_eq_zero_iff.1 h
    subst hq
    refine Ev.step (f := fun _ => some (p ++ n :: ([] ++ s))) (fun k => ?_) (Ev.now _)
    simp only [q6z.l1]
    rw [if_neg (by omega), if_pos (by omega), if_pos (by simp; omega), Int.toNat_natCast]
    simp
  | succ m ih =>
    intro s z hl
    rcases List.eq_nil_or_concat q with rfl | ⟨q', y, rfl⟩
    · simp at h
    · rw [List.concat_eq_append] at *
      have hq' : q'.length = m := by simpa using h
      have e1 := ih q' hq' (y :: s) y (by simp only [List.length_cons]; omega)
      refine Ev.step (fun k => ?_) (r := p ++ n :: (q' ++ [y] ++ s)) (by
        have : p ++ n :: (q' ++ y :: s) = p ++ n :: (q' ++ [y] ++ s) := by simp
        rw [← this]
        exact e1)
      simp only [q6z.l1]
      have hw : wrap64 (((p.length + (m + 1) : Nat) : Int) - 1) = ((p.length + m : Nat) : Int) := by rw [wr _ (by omega) (by omega)]; omega
      have hr : rd (p ++ (q' ++ [y]) ++ [z] ++ s) ((p.length + m : Nat) : Int) = y := by
        rw [rdI _ _ (by simp; omega)]
        simp [List.getElem_append, hq']
      rw [if_pos (by omega), hw, if_pos (by omega), if_pos (by simp; omega), if_pos (by omega), if_pos (by simp; omega), hr, Int.toNat_natCast]
      congr 1
      have : p ++ (q' ++ [y]) ++ [z] ++ s = (p ++ q' ++ [y]) ++ (z :: s) := by simp
      rw [this, List.set_append_right _ _ (by simp; omega)]
      have : p.length + (m + 1) - (p ++ q' ++ [y]).length = 0 := by simp; omega
      rw [this]
      simp
theorem with_l0 (l : List Int) (n : Int) (hl : l.length ≤ 900000) (r : List Int) : ∀ (q p : List Int), l = p ++ q → (∀ a ∈ p, a < n) →
    Ev (fun k => q6z.j1 k l n (((p ++ q.takeWhile (fun a => decide (a < n))).length : Nat) : Int)) r → Ev (fun k => q6z.l0 k l n (p.length : Int)) r
  | [], p, hp, _, h => by
    rw [List.append_nil] at hp
    subst hp
    refine Ev.step (fun k => ?_) h
    simp only [q6z.l0]
    rw [if_neg (by omega), List.takeWhile_nil, List.append_nil]
  | a :: q, p, hp, hlt, h => by
    have hpl : p.length < l.length := by rw [hp]; simp
    have hr : rd l (p.length : Int) = a := by
      rw [rdI l _ hpl]
      simp [hp]
    by_cases ha : a < n
    · rw [List.takeWhile_cons_of_pos (by simpa using ha)] at h
      refine Ev.step (fun k => ?_) (with_l0 l n hl r q (p ++ [a]) (by rw [hp]; simp) (fun x hx => by
        rcases List.mem_append.1 hx with hx | hx
        · exact hlt x hx
        · rw [List.mem_singleton.1 hx]; exact ha) (by rw [List.append_assoc, List.singleton_append]; exact h))
      simp only [q6z.l0]
      rw [if_pos (by omega), if_pos (by omega), hr, if_pos ha, wr1 _ (by omega), List.length_append, List.length_singleton]
    · rw [List.takeWhile_cons_of_neg (by simpa using ha), List.append_nil] at h
      refine Ev.step (fun k => ?_) h
      simp only [q6z.l0]
      rw [if_pos (by omega), if_pos (by omega), hr, if_neg ha]
theorem with_ev (l : List Int) (n : Int) (hl : l.length ≤ 900000) : Ev (fun k => q6z.f k l n) (ins n l) := by
  refine Ev.congr (fun k => rfl) (with_l0 l n hl (ins n l) l [] rfl (fun a h => (List.not_mem_nil h).elim) ?_)
  rw [List.nil_append]
  have hs := ins_split n l
  unfold ins
  cases hd : l.dropWhile (fun a => decide (a < n)) with
  | nil =>
    rw [hd, List.append_nil] at hs
    simp only
    rw [← hs]
    refine Ev.step (fun k => ?_) (Ev.step (f := fun k => q6z.l1 k (l ++ [0]) n (l.length : Int) (l.length : Int)) (g := fun k => q6z.j2 k l n (l.length : Int) false) (fun k => ?_) ?_)
    · simp only [q6z.j1]
      rw [if_neg (by omega)]
    · simp only [q6z.j2]
      rw [if_neg (by simp), if_pos (by omega), Option.bind_some, wr _ (by simp only [List.length_append, List.length_singleton]; omega) (by simp only [List.length_append, List.length_singleton]; omega)]
      congr 1
      simp
    · have := with_l1 n l [] [] 0 (by simp; omega)
      simpa using this
  | cons a r =>
    rw [hd] at hs
    have hal : (l.takeWhile (fun a => decide (a < n))).length < l.length := by
      have := congrArg List.length hs
      simp only [List.length_append, List.length_cons] at this
      omega
    generalize hp : l.takeWhile (fun a => decide (a < n)) = p at hs hal ⊢
    have hr : rd l (p.length : Int) = a := by
      rw [rdI l _ hal]
      simp [hs]
    simp only
    by_cases ha : a = n
    · rw [if_pos ha]
      refine Ev.step (fun k => ?_) (Ev.step (f := fun _ => some l) (g := fun k => q6z.j2 k l n (p.length : Int) true) (fun k => ?_) (Ev.now _))
      · simp only [q6z.j1]
        rw [if_pos (by omega), if_pos (by omega), hr, ha]
        simp
      · simp only [q6z.j2]
        rw [if_pos trivial]
    · rw [if_neg ha]
      refine Ev.step (fun k => ?_) (Ev.step (f := fun k => q6z.l1 k (l ++ [0]) n (p.length : Int) (l.length : Int)) (g := fun k => q6z.j2 k l n (p.length : Int) false) (fun k => ?_) ?_)
      · simp only [q6z.j1]
        rw [if_pos (by omega), if_pos (by omega), hr, show (a == n) = false from by simpa using ha]
      · simp only [q6z.j2]
        rw [if_neg (by simp), if_pos (by omega), Option.bind_some, wr _ (by simp only [List.length_append, List.length_singleton]; omega) (by simp only [List.length_append, List.length_singleton]; omega)]
        congr 1
        simp
      · have h1 := with_l1 n p (a :: r) [] 0 (by have := congrArg List.length hs; simp only [List.length_append, List.length_cons, List.length_nil] at this ⊢; omega)
        have e1 : p ++ a :: r ++ [0] ++ [] = l ++ [0] := by rw [List.append_nil, ← hs]
        have e2 : p.length + (a :: r).length = l.length := by rw [← List.length_append, ← hs]
        rw [e1, e2] at h1
        rw [List.append_nil] at h1
        exact h1
theorem begins_l1 (L : List (List S33)) (l : List S33) (x11 : Int) (hl : l.length ≤ 100000) (hr : Rng l) (r : List Int) : ∀ (d i : Nat) (b : List Int), i + d = l.length → b.length + 2 * d ≤ 800000 →
    Ev (fun k => q7z.l0 k (cutS b (l.drop i)) L (L.length : Int) (wrap64 (x11 + 1))) r → Ev (fun k => q7z.l1 k b L (L.length : Int) x11 l (l.length : Int) (i : Int)) r
  | 0, i, b, hi, _, h => by
    rw [List.drop_eq_nil_of_le (by omega)] at h
    refine Ev.step (fun k => ?_) h
    simp only [q7z.l1]
    rw [if_neg (by omega), cutS]
  | d + 1, i, b, hi, hb, h => by
    have hil : i < l.length := by omega
    rw [List.drop_eq_getElem_cons hil] at h
    have hrd : rd_T33 l (i : Int) = l[i] := rdS l i hil
    have hs := hr l[i] (List.getElem_mem hil)
    generalize l[i] = s at hrd hs h
    unfold cutS at h
    have l1 := length_ins s.f0 b
    by_cases h1 : s.f0 > s.f1
    · rw [if_pos h1] at h
      refine Ev.step (fun k => ?_) (begins_l1 L l x11 hl hr r d (i + 1) b (by omega) (by omega) h)
      simp only [q7z.l1]
      rw [if_pos (by omega), if_pos (by omega), if_pos (by omega), hrd, if_pos h1, wr1 i (by omega)]
    · rw [if_neg h1] at h
      by_cases h2 : s.f1 < 4294967295
      · rw [if_pos h2] at h
        have l2 := length_ins (s.f1 + 1) (ins s.f0 b)
        refine Ev.step (fun k => ?_) (Ev.bind (with_ev b s.f0 (by omega)) (f := fun k t => if s.f1 < 4294967295 then ((q6z.f k t ((s.f1 + 1) % 4294967296)).bind fun t213 => (q7z.l1 k t213 L (L.length : Int) x11 l (l.length : Int) (wrap64 ((i : Int) + 1)))) else (q7z.l1 k t L (L.length : Int) x11 l (l.length : Int) (wrap64 ((i : Int) + 1)))) ?_)
        · simp only [q7z.l1]
          rw [if_pos (by omega), if_pos (by omega), if_pos (by omega), hrd, if_neg h1]
        · have hm : (s.f1 + 1) % 4294967296 = s.f1 + 1 := by omega
          simp only [if_pos h2, hm]
          refine Ev.bind (with_ev (ins s.f0 b) (s.f1 + 1) (by omega)) (f := fun k t => q7z.l1 k t L (L.length : Int) x11 l (l.length : Int) (wrap64 ((i : Int) + 1))) ?_
          rw [wr1 i (by omega)]
          exact begins_l1 L l x11 hl hr r d (i + 1) _ (by omega) (by omega) h
      · rw [if_neg h2] at h
        refine Ev.step (fun k => ?_) (Ev.bind (with_ev b s.f0 (by omega)) (f := fun k t => if s.f1 < 4294967295 then ((q6z.f k t ((s.f1 + 1) % 4294967296)).bind fun t213 => (q7z.l1 k t213 L (L.length : Int) x11 l (l.length : Int) (wrap64 ((i : Int) + 1)))) else (q7z.l1 k t L (L.length : Int) x11 l (l.length : Int) (wrap64 ((i : Int) + 1)))) ?_)
        · simp only [q7z.l1]
          rw [if_pos (by omega), if_pos (by omega), if_pos (by omega), hrd, if_neg h1]
        · simp only [if_neg h2]
          rw [wr1 i (by omega)]
          exact begins_l1 L l x11 hl hr r d (i + 1) _ (by omega) (by omega) h
theorem rdL (L : List (List S33)) (i : Nat) (h : i < L.length) : rd_L2 L (i : Int) = L[i] := by
  unfold rd_L2
  rw [Int.toNat_natCast, List.getD_eq_getElem?_getD, List.getElem?_eq_getElem h]
  rfl
theorem begins_l0 (L : List (List S33)) (hL : L.length ≤ 1000) (hr : ∀ l ∈ L, Rng l ∧ l.length ≤ 100000) : ∀ (d i : Nat) (b : List Int) (m : Nat), i + d = L.length → b.length + m ≤ 800000 → 2 * ((L.drop i).map List.length).sum ≤ m → Rising b →
    Ev (fun k => q7z.l0 k b L (L.length : Int) (i : Int)) (cutL b (L.drop i))
  | 0, i, b, m, hi, _, _, _ => by
    rw [List.drop_eq_nil_of_le (by omega)]
    refine Ev.step (f := fun _ => some b) (fun k => ?_) (Ev.now b)
    simp only [q7z.l0]
    rw [if_neg (by omega)]
  | d + 1, i, b, m, hi, hb, hm, hrb => by
    have hil : i < L.length := by omega
    rw [List.drop_eq_getElem_cons hil] at hm ⊢
    have hrl := hr L[i] (List.getElem_mem hil)
    rw [List.map_cons, List.sum_cons] at hm
    rw [cutL]
    obtain ⟨c1, _, c3⟩ := cutS_spec L[i] b hrb
    refine Ev.step (fun k => ?_) (begins_l1 L L[i] (i : Int) hrl.2 hrl.1 _ L[i].length 0 b (by omega) (by omega) (by
      rw [List.drop_zero, wr1 i (by omega)]
      exact begins_l0 L hL hr d (i + 1) _ (m - 2 * L[i].length) (by omega) (by omega) (by omega) c1))
    simp only [q7z.l0]
    rw [if_pos (by omega), if_pos (by omega), if_pos (by omega), rdL L i hil]
    rfl
theorem end_f (b : List Int) (i : Nat) (hi : i < b.length) (hb : b.length ≤ 900000) (hr : ∀ z ∈ b, 0 ≤ z ∧ z ≤ 4294967295) (hp : Rising b) (h0 : ∀ z ∈ b.drop 1, 0 < z) (g : Int → Bool) :
    q8z.f b (i : Int) = some (endOf ((b.drop (i + 1)).map (fun n => (n, g n)))) := by
  unfold q8z.f
  by_cases h : i + 1 = b.length
  · rw [if_pos (by rw [wr _ (by omega) (by omega)]; omega), List.drop_eq_nil_of_le (by omega)]
    rfl
  · have hlt : i + 1 < b.length := by omega
    rw [if_neg (by rw [wr _ (by omega) (by omega)]; omega), wr1 i (by omega), if_pos (by omega), if_pos (by omega), rdI b (i + 1) hlt, List.drop_eq_getElem_cons hlt]
    have hz := hr b[i + 1] (List.getElem_mem hlt)
    have hz0 : 0 < b[i + 1] := h0 _ (by
      have : b[i + 1] = (b.drop 1)[i]'(by simp; omega) := by simp [Nat.add_comm]
      rw [this]
      exact List.getElem_mem _)
    rw [List.map_cons]
    show some ((b[i + 1] - 1) % 4294967296) = some (b[i + 1] - 1)
    congr 1
    omega
theorem rdB (l : List Bool) (i : Nat) (h : i < l.length) : rdOf false l (i : Int) = l[i] := by
  unfold rdOf
  rw [Int.toNat_natCast, List.getD_eq_getElem?_getD, List.getElem?_eq_getElem h]
  rfl
theorem from_l0 (b : List Int) (g : Int → Bool) (hb : b.length ≤ 900000) (hr : ∀ z ∈ b, 0 ≤ z ∧ z ≤ 4294967295) (hp : Rising b) (h0 : ∀ z ∈ b.drop 1, 0 < z) : ∀ (d i : Nat) (out : List S33) (prev : Bool), i + d = b.length → out.length ≤ i →
    (prev = true → out ≠ []) → (∀ h : 0 < i, ∃ z, b[i - 1]? = some z ∧ prev = g z) → (i = 0 → prev = false) →
    Ev (fun k => q9z.l0 k b (b.map g) out b (b.length : Int) (i : Int)) (fromL prev out ((b.drop i).map (fun n => (n, g n))))
  | 0, i, out, prev, hi, _, _, _, _ => by
    rw [List.drop_eq_nil_of_le (by omega)]
    refine Ev.step (f := fun _ => some out) (fun k => ?_) (Ev.now out)
    simp only [q9z.l0]
    rw [if_neg (by omega)]
  | d + 1, i, out, prev, hi, ho, hpo, hpv, hp0 => by
    have hil : i < b.length := by omega
    rw [List.drop_eq_getElem_cons hil, List.map_cons]
    have hrb : rdOf false (b.map g) (i : Int) = g b[i] := by rw [rdB _ i (by simpa using hil)]; simp
    have hrd : rd b (i : Int) = b[i] := rdI b i hil
    have hend := end_f b i hil hb hr hp h0 g
    have hml : ((b.map g).length : Int) = (b.length : Int) := by simp
    by_cases hg : g b[i] = true
    · have hj : Ev (fun k => q9z.j1 k b (b.map g) out (i : Int) b[i] b (b.length : Int) (i : Int) prev) (fromL prev out ((b[i], g b[i]) :: (b.drop (i + 1)).map (fun n => (n, g n)))) := by
        cases prev with
        | true =>
          rcases List.eq_nil_or_concat out with rfl | ⟨p, x, rfl⟩
          · exact absurd rfl (hpo rfl)
          · rw [List.concat_eq_append] at *
            have hpl : (p ++ [x]).length = p.length + 1 := by simp
            have hw : wrap64 (((p ++ [x]).length : Int) - 1) = (p.length : Int) := by rw [wr _ (by omega) (by omega)]; omega
            have hrx : rd_T33 (p ++ [x]) (p.length : Int) = x := by rw [rdS _ _ (by simp)]; simp
            have hf : fromL true (p ++ [x]) ((b[i], g b[i]) :: (b.drop (i + 1)).map (fun n => (n, g n))) = fromL true (p ++ [⟨x.f0, endOf ((b.drop (i + 1)).map (fun n => (n, g n)))⟩]) ((b.drop (i + 1)).map (fun n => (n, g n))) := by
              rw [fromL, hg, setEnd_snoc]
              rfl
            rw [hf]
            refine Ev.step (fun k => ?_) (from_l0 b g hb hr hp h0 d (i + 1) _ true (by omega) (by simp; simp at ho; omega) (fun _ => by simp) (fun h => ⟨b[i], by rw [Nat.add_sub_cancel]; exact List.getElem?_eq_getElem hil, hg.symm⟩) (fun h => by omega))
            simp only [q9z.j1]
            rw [if_pos trivial, hend, Option.bind_some, hw, if_pos (by omega), if_pos (by omega), hrx, Int.toNat_natCast, wr1 i (by omega)]
            congr 1
            simp
        | false =>
          have hf : fromL false out ((b[i], g b[i]) :: (b.drop (i + 1)).map (fun n => (n, g n))) = fromL true (out ++ [⟨b[i], endOf ((b.drop (i + 1)).map (fun n => (n, g n)))⟩]) ((b.drop (i + 1)).map (fun n => (n, g n))) := by
            rw [fromL, hg]
            rfl
          rw [hf]
          refine Ev.step (fun k => ?_) (from_l0 b g hb hr hp h0 d (i + 1) _ true (by omega) (by simp; omega) (fun _ => by simp) (fun h => ⟨b[i], by rw [Nat.add_sub_cancel]; exact List.getElem?_eq_getElem hil, hg.symm⟩) (fun h => by omega))
          simp only [q9z.j1]
          rw [if_neg (by simp), hend, Option.bind_some, if_pos (by omega), wr1 i (by omega)]
      by_cases hi0 : 0 < i
      · obtain ⟨z, hz1, hz2⟩ := hpv hi0
        have hq2 : g (b[i - 1]'(by omega)) = prev := by
          rw [List.getElem?_eq_getElem (show i - 1 < b.length by omega)] at hz1
          rw [hz2, Option.some.inj hz1]
        refine Ev.step (fun k => ?_) hj
        simp only [q9z.l0]
        rw [if_pos (by omega), if_pos (by omega), if_pos (by omega), if_pos (by omega), hrb, if_pos hg, if_pos (by omega), wr2 i (by omega) hi0, if_pos (by omega), if_pos (by omega), hrd, rdB _ (i - 1) (by rw [List.length_map]; omega), List.getElem_map, hq2]
      · have hi1 : i = 0 := by omega
        have hpf := hp0 hi1
        subst hpf
        refine Ev.step (fun k => ?_) hj
        simp only [q9z.l0]
        rw [if_pos (by omega), if_pos (by omega), if_pos (by omega), if_pos (by omega), hrb, if_pos hg, if_neg (by omega), hrd]
    · have hgf : g b[i] = false := by simpa using hg
      have hf : fromL prev out ((b[i], g b[i]) :: (b.drop (i + 1)).map (fun n => (n, g n))) = fromL false out ((b.drop (i + 1)).map (fun n => (n, g n))) := by
        rw [fromL, hgf]
        rfl
      rw [hf]
      refine Ev.step (fun k => ?_) (from_l0 b g hb hr hp h0 d (i + 1) out false (by omega) (by omega) (fun h => by cases h) (fun h => ⟨b[i], by rw [Nat.add_sub_cancel]; exact List.getElem?_eq_getElem hil, hgf.symm⟩) (fun h => rfl))
      simp only [q9z.l0]
      rw [if_pos (by omega), if_pos (by omega), if_pos (by omega), if_pos (by omega), hrb, if_neg hg, wr1 i (by omega)]
end Go.Proofs.Ytconaifcjnpabaa.P

namespace Go.Proofs.Ytconaifcjnpabaa.P
open Go.RowKit Go.Proofs.YtconaifcjnpabaaW.PrintWords Go.Proofs.YtconaifcjnpabaaW.PrintMore
set_option linter.unusedVariables false
set_option linter.unusedSimpArgs false
/-! ### Set -/
def opOf (op : Int) (p q : Bool) : Bool := if op = 1 then p || q else if op = 2 then p && q else !p
theorem set_l0 (op : Int) (hop : op = 1 ∨ op = 2 ∨ op = 3) (a c : List S33) (b : List Int) (ha : a.length ≤ 1000000) (hc : c.length ≤ 1000000) (hb : b.length ≤ 900000) (r : List S33) : ∀ (d i : Nat) (acc : List Bool), i + d = b.length → acc.length ≤ i →
    Ev (fun k => q9z.f k b (acc ++ (b.drop i).map (fun n => opOf op (InS a n) (InS c n)))) r → Ev (fun k => q10z.l0 k op a c b acc b (b.length : Int) (i : Int)) r
  | 0, i, acc, hi, _, h => by
    rw [List.drop_eq_nil_of_le (by omega), List.map_nil, List.append_nil] at h
    refine Ev.step (fun k => ?_) (Ev.bind h (f := fun _ t => some t) (Ev.now r))
    simp only [q10z.l0]
    rw [if_neg (by omega)]
  | d + 1, i, acc, hi, hacc, h => by
    have hil : i < b.length := by omega
    rw [List.drop_eq_getElem_cons hil, List.map_cons] at h
    have hrd : rd b (i : Int) = b[i] := rdI b i hil
    generalize b[i] = n at hrd h
    have ih := set_l0 op hop a c b ha hc hb r d (i + 1) (acc ++ [opOf op (InS a n) (InS c n)]) (by omega) (by simp; omega) (by rw [List.append_assoc, List.singleton_append]; exact h)
    refine Ev.step (fun k => ?_) (Ev.bind (refIn_ev a n ha) (f := fun k p => (q5z.f k c n).bind fun q => q10z.l0 k op a c b (acc ++ [opOf op p q]) b (b.length : Int) ((i + 1 : Nat) : Int)) (Ev.bind (refIn_ev c n hc) (f := fun k q => q10z.l0 k op a c b (acc ++ [opOf op (InS a n) q]) b (b.length : Int) ((i + 1 : Nat) : Int)) ih))
    simp only [q10z.l0]
    rw [if_pos (by omega), if_pos (by omega), if_pos (by omega), hrd, wr1 i (by omega)]
    have hal : acc.length < 140737488355328 := by omega
    congr 1
    funext p
    congr 1
    funext q
    rcases hop with rfl | rfl | rfl <;> cases p <;> cases q <;> simp [opOf, hal]
theorem cutL_length (a c : List S33) : (cutL [0] [a, c]).length ≤ 1 + 2 * a.length + 2 * c.length := by
  obtain ⟨h1, _, h3⟩ := cutS_spec a [0] (List.pairwise_singleton _ _)
  obtain ⟨_, _, h4⟩ := cutS_spec c (cutS [0] a) h1
  simp only [cutL]
  simp only [List.length_cons, List.length_nil] at h3
  omega
theorem set_ev (op : Int) (hop : op = 1 ∨ op = 2 ∨ op = 3) (a c : List S33) (ha : Rng a) (hc : Rng c) (hal : a.length ≤ 100000) (hcl : c.length ≤ 100000) :
    ∃ r, Ev (fun k => q10z.f k op a c) r ∧ NF r ∧ ∀ x, InS r x = (decide (0 ≤ x) && decide (x ≤ 4294967295) && opOf op (InS a x) (InS c x)) := by
  obtain ⟨h1, h2⟩ := setL_spec (opOf op) a c ha hc
  refine ⟨_, ?_, h1, h2⟩
  obtain ⟨hr, hm⟩ := cutL_spec [a, c] [0] (List.pairwise_singleton _ _)
  have hrng : ∀ x ∈ cutL [0] [a, c], 0 ≤ x ∧ x ≤ 4294967295 := fun x hx => by
    rcases (hm x).1 hx with h | ⟨l, hl, s, hs, q1, q2⟩
    · rw [List.mem_singleton.1 h]; omega
    · have : 0 ≤ s.f0 ∧ s.f0 ≤ 4294967295 ∧ 0 ≤ s.f1 ∧ s.f1 ≤ 4294967295 := by
        simp only [List.mem_cons, List.not_mem_nil, or_false] at hl
        rcases hl with rfl | rfl
        · exact ha s hs
        · exact hc s hs
      omega
  have hlen := cutL_length a c
  have h0m : (0 : Int) ∈ cutL [0] [a, c] := (hm 0).2 (.inl List.mem_cons_self)
  have hpos : ∀ z ∈ (cutL [0] [a, c]).drop 1, 0 < z := fun z hz => by
    cases hq : cutL [0] [a, c] with
    | nil => rw [hq] at hz; simp at hz
    | cons n b =>
      rw [hq] at hz hr h0m hrng
      unfold Rising at hr
      rw [List.pairwise_cons] at hr
      have h4 := hr.1 z (by simpa using hz)
      have h5 := hrng n List.mem_cons_self
      omega
  have hbeg := begins_l0 [a, c] (by simp) (fun l hl => by
    simp only [List.mem_cons, List.not_mem_nil, or_false] at hl
    rcases hl with rfl | rfl
    · exact ⟨ha, hal⟩
    · exact ⟨hc, hcl⟩) 2 0 [0] 400000 (by simp) (by simp) (by simp; omega) (List.pairwise_singleton _ _)
  rw [List.drop_zero] at hbeg
  refine Ev.bind (g := fun k => q7z.f k [a, c]) (f := fun k t => q10z.l0 k op a c t [] t (t.length : Int) 0) hbeg ?_
  refine set_l0 op hop a c _ (by omega) (by omega) (by omega) _ (cutL [0] [a, c]).length 0 [] (by omega) (Nat.zero_le _) ?_
  rw [List.nil_append, List.drop_zero]
  exact from_l0 _ (fun n => opOf op (InS a n) (InS c n)) (by omega) hrng hr hpos (cutL [0] [a, c]).length 0 [] false (by omega) (Nat.zero_le _) (fun h => by cases h) (fun h => by omega) (fun _ => rfl)

/-! ### Meet -/
def meetL : Nat → List S33 → List S33 → List S33
  | f + 1, x :: a, y :: b => (if mx x.f0 y.f0 ≤ mn x.f1 y.f1 then [⟨mx x.f0 y.f0, mn x.f1 y.f1⟩] else []) ++ (if mn x.f1 y.f1 = 4294967295 then [] else if x.f1 = mn x.f1 y.f1 then meetL f a (y :: b) else meetL f (x :: a) b)
  | _, _, _ => []
theorem meetL_low : ∀ (f : Nat) (a b : List S33) (c : Int), (∀ s ∈ a, c ≤ s.f0) ∨ (∀ s ∈ b, c ≤ s.f0) → ∀ z ∈ meetL f a b, c ≤ z.f0
  | 0, a, b, c, _, z, hz => by simp [meetL] at hz
  | f + 1, [], b, c, _, z, hz => by simp [meetL] at hz
  | f + 1, x :: a, [], c, _, z, hz => by simp [meetL] at hz
  | f + 1, x :: a, y :: b, c, h, z, hz => by
    rw [meetL] at hz
    rcases List.mem_append.1 hz with hz | hz
    · split at hz
      · rw [List.mem_singleton.1 hz]
        show c ≤ mx x.f0 y.f0
        unfold mx
        rcases h with h | h
        · have := h x List.mem_cons_self; split <;> omega
        · have := h y List.mem_cons_self; split <;> omega
      · simp at hz
    · split at hz
      · simp at hz
      · split at hz
        · exact meetL_low f a (y :: b) c (h.imp (fun h s hs => h s (List.mem_cons_of_mem _ hs)) id) z hz
        · exact meetL_low f (x :: a) b c (h.imp id (fun h s hs => h s (List.mem_cons_of_mem _ hs))) z hz
theorem InS_above {l : List S33} {c n : Int} (h : ∀ s ∈ l, c < s.f0) (hn : n ≤ c) : InS l n = false := by
  cases hq : InS l n with
  | false => rfl
  | true =>
    obtain ⟨s, hs, hs0, _⟩ := (InS_iff _ _).1 hq
    have := h s hs
    omega
theorem meetL_nf : ∀ (f : Nat) (a b : List S33), a.length + b.length ≤ f → NF a → NF b → NF (meetL f a b) ∧ ∀ n, InS (meetL f a b) n = (InS a n && InS b n)
  | f, [], b, _, _, _ => by
    have : meetL f [] b = [] := by cases f <;> rfl
    rw [this]
    exact ⟨NF_nil, fun n => by simp [InS]⟩
  | f, x :: a, [], _, _, _ => by
    have : meetL f (x :: a) [] = [] := by cases f <;> rfl
    rw [this]
    exact ⟨NF_nil, fun n => by simp [InS]⟩
  | 0, x :: a, y :: b, h, _, _ => by simp at h
  | f + 1, x :: a, y :: b, h, ha, hb => by
    obtain ⟨hx, hxa, ha'⟩ := NF_cons.1 ha
    obtain ⟨hy, hyb, hb'⟩ := NF_cons.1 hb
    unfold Ok at hx hy
    have hmx : mx x.f0 y.f0 = x.f0 ∧ y.f0 ≤ x.f0 ∨ mx x.f0 y.f0 = y.f0 ∧ x.f0 < y.f0 := by unfold mx; split <;> omega
    have hmn : mn x.f1 y.f1 = x.f1 ∧ x.f1 ≤ y.f1 ∨ mn x.f1 y.f1 = y.f1 ∧ y.f1 < x.f1 := by unfold mn; split <;> omega
    rw [meetL]
    generalize mx x.f0 y.f0 = lo at hmx ⊢
    generalize mn x.f1 y.f1 = hi at hmn ⊢
    have hbox : ∀ (n : Int), InS (if lo ≤ hi then [(⟨lo, hi⟩ : S33)] else []) n = (inSpan n x && inSpan n y) := fun n => by
      rw [Bool.eq_iff_iff, Bool.and_eq_true, inSpan_iff, inSpan_iff]
      split
      · simp only [InS, List.any_cons, List.any_nil, Bool.or_false, inSpan_iff]
        omega
      · simp only [InS, List.any_nil]
        constructor
        · intro h; cases h
        · intro h; omega
    have hcons : ∀ (r : List S33), NF r → (∀ z ∈ r, hi + 1 < z.f0) → NF ((if lo ≤ hi then [(⟨lo, hi⟩ : S33)] else []) ++ r) := fun r h1 h2 => by
      split
      · exact NF_cons.2 ⟨⟨by show 0 ≤ lo; omega, by assumption, by show hi ≤ 4294967295; omega⟩, h2, h1⟩
      · exact h1
    have hin : ∀ n, (InS (x :: a) n && InS (y :: b) n) = ((inSpan n x && inSpan n y) || ((InS a n && InS (y :: b) n) || (InS (x :: a) n && InS b n))) := fun n => by
      rw [InS_cons, InS_cons]
      cases inSpan n x <;> cases inSpan n y <;> cases InS a n <;> cases InS b n <;> rfl
    by_cases hM : hi = 4294967295
    · rw [if_pos hM]
      refine ⟨hcons [] NF_nil (fun z hz => (List.not_mem_nil hz).elim), fun n => ?_⟩
      have e1 : a = [] := by
        cases a with
        | nil => rfl
        | cons z a => have h1 := hxa z List.mem_cons_self; have h2 := (NF_cons.1 ha').1; unfold Ok at h2; omega
      have e2 : b = [] := by
        cases b with
        | nil => rfl
        | cons z b => have h1 := hyb z List.mem_cons_self; have h2 := (NF_cons.1 hb').1; unfold Ok at h2; omega
      subst e1 e2
      rw [List.append_nil, hbox, hin]
      simp [InS]
    · rw [if_neg hM]
      by_cases hc : x.f1 = hi
      · rw [if_pos hc]
        obtain ⟨k1, k2⟩ := meetL_nf f a (y :: b) (by simp at h ⊢; omega) ha' hb
        refine ⟨hcons _ k1 (fun z hz => by have := meetL_low f a (y :: b) (x.f1 + 2) (.inl (fun s hs => by have := hxa s hs; omega)) z hz; omega), fun n => ?_⟩
        rw [InS_append, hbox, k2, hin]
        congr 1
        by_cases hn : n ≤ x.f1
        · rw [InS_above (c := y.f1 + 1) (n := n) hyb (by omega), Bool.and_false, Bool.or_false]
        · have : inSpan n x = false := by rw [Bool.eq_false_iff]; intro h; rw [inSpan_iff] at h; omega
          rw [InS_cons x a, this, Bool.false_or, InS_cons y b]
          cases InS a n <;> cases inSpan n y <;> cases InS b n <;> rfl
      · rw [if_neg hc]
        obtain ⟨k1, k2⟩ := meetL_nf f (x :: a) b (by simp at h ⊢; omega) ha hb'
        refine ⟨hcons _ k1 (fun z hz => by have := meetL_low f (x :: a) b (y.f1 + 2) (.inr (fun s hs => by have := hyb s hs; omega)) z hz; omega), fun n => ?_⟩
        rw [InS_append, hbox, k2, hin]
        congr 1
        by_cases hn : n ≤ y.f1
        · rw [InS_above (c := x.f1 + 1) (n := n) hxa (by omega), Bool.false_and, Bool.false_or]
        · have : inSpan n y = false := by rw [Bool.eq_false_iff]; intro h; rw [inSpan_iff] at h; omega
          rw [InS_cons y b, this, Bool.false_or, InS_cons x a]
          cases InS a n <;> cases inSpan n x <;> cases InS b n <;> rfl
theorem meetL_length : ∀ (f : Nat) (a b : List S33), (meetL f a b).length ≤ a.length + b.length
  | 0, a, b => by simp [meetL]
  | f + 1, [], b => by simp [meetL]
  | f + 1, x :: a, [] => by simp [meetL]
  | f + 1, x :: a, y :: b => by
    have h1 := meetL_length f a (y :: b)
    have h2 := meetL_length f (x :: a) b
    rw [meetL, List.length_append]
    simp only [List.length_cons] at h1 h2 ⊢
    split <;> split <;> (try split) <;> simp <;> omega
theorem meet_l0 : ∀ (f : Nat) (a b out : List S33), a.length + b.length ≤ f → out.length + a.length + b.length ≤ 4000000 → Ev (fun k => q4z.l0 k a b out) (out ++ meetL f a b)
  | f, [], b, out, _, _ => by
    have : meetL f [] b = [] := by cases f <;> rfl
    rw [this, List.append_nil]
    refine Ev.step (fun k => ?_) (Ev.step (f := fun _ => some out) (g := fun k => q4z.j1 k [] b out false) (fun k => ?_) (Ev.now out))
    · simp only [q4z.l0]
      rw [if_neg (by simp)]
    · simp only [q4z.j1]
      rw [if_neg (by simp)]
  | f, x :: a, [], out, _, _ => by
    have : meetL f (x :: a) [] = [] := by cases f <;> rfl
    rw [this, List.append_nil]
    refine Ev.step (fun k => ?_) (Ev.step (f := fun _ => some out) (g := fun k => q4z.j1 k (x :: a) [] out false) (fun k => ?_) (Ev.now out))
    · simp only [q4z.l0]
      rw [if_pos (by simp only [List.length_cons]; omega)]
      rfl
    · simp only [q4z.j1]
      rw [if_neg (by simp)]
  | 0, x :: a, y :: b, out, h, _ => by simp at h
  | f + 1, x :: a, y :: b, out, h, ho => by
    have rx : rd_T33 (x :: a) 0 = x := rfl
    have ry : rd_T33 (y :: b) 0 = y := rfl
    have lx : (0 : Int) < ((x :: a).length : Int) := by simp only [List.length_cons]; omega
    have ly : (0 : Int) < ((y :: b).length : Int) := by simp only [List.length_cons]; omega
    have dx : (x :: a).drop (1 : Int).toNat = a := rfl
    have dy : (y :: b).drop (1 : Int).toNat = b := rfl
    simp only [List.length_cons] at h ho
    rw [meetL, ← List.append_assoc]
    have hj : ∀ o : List S33, o.length ≤ out.length + 1 → Ev (fun k => q4z.j2 k (x :: a) (y :: b) o (mn x.f1 y.f1)) (o ++ (if mn x.f1 y.f1 = 4294967295 then [] else if x.f1 = mn x.f1 y.f1 then meetL f a (y :: b) else meetL f (x :: a) b)) := fun o hoo => by
      by_cases hM : mn x.f1 y.f1 = 4294967295
      · rw [if_pos hM, List.append_nil]
        refine Ev.step (f := fun _ => some o) (fun k => ?_) (Ev.now o)
        simp only [q4z.j2]
        rw [if_pos hM]
      · rw [if_neg hM]
        by_cases hc : x.f1 = mn x.f1 y.f1
        · rw [if_pos hc]
          refine Ev.step (fun k => ?_) (meet_l0 f a (y :: b) o (by simp only [List.length_cons]; omega) (by simp only [List.length_cons]; omega))
          simp only [q4z.j2]
          rw [if_neg hM, if_pos lx, rx, if_pos hc, if_pos (by omega), dx]
        · rw [if_neg hc]
          refine Ev.step (fun k => ?_) (meet_l0 f (x :: a) b o (by simp only [List.length_cons]; omega) (by simp only [List.length_cons]; omega))
          simp only [q4z.j2]
          rw [if_neg hM, if_pos lx, rx, if_neg hc, if_pos (by omega), dy]
    refine Ev.step (f := fun k => q4z.j1 k (x :: a) (y :: b) out true) (fun k => ?_) ?_
    · simp only [q4z.l0]
      rw [if_pos (by omega), decide_eq_true (show ((y :: b).length : Int) > 0 from ly)]
    · by_cases hl : mx x.f0 y.f0 ≤ mn x.f1 y.f1
      · rw [if_pos hl]
        refine Ev.step (fun k => ?_) (hj (out ++ [⟨mx x.f0 y.f0, mn x.f1 y.f1⟩]) (by simp))
        simp only [q4z.j1]
        rw [if_pos trivial, if_pos lx, if_pos ly, rx, ry, if_pos hl, if_pos (by omega)]
      · rw [if_neg hl, List.append_nil]
        refine Ev.step (fun k => ?_) (hj out (by omega))
        simp only [q4z.j1]
        rw [if_pos trivial, if_pos lx, if_pos ly, rx, ry, if_neg hl]
theorem meet_ev (a b : List S33) (hal : a.length ≤ 1000000) (hbl : b.length ≤ 1000000) (ha : Rng a) (hb : Rng b) : ∃ r, Ev (fun k => q4z.f k a b) r ∧ NF r ∧ (∀ n, InS r n = (InS a n && InS b n)) ∧ r.length ≤ a.length + b.length := by
  obtain ⟨t, h1, h2, h3, h4⟩ := norm_ev a hal ha
  obtain ⟨u, k1, k2, k3, k4⟩ := norm_ev b hbl hb
  obtain ⟨p1, p2⟩ := meetL_nf (t.length + u.length) t u (Nat.le_refl _) h2 k2
  refine ⟨meetL (t.length + u.length) t u, ?_, p1, fun n => by rw [p2, h3, k3], Nat.le_trans (meetL_length _ t u) (by omega)⟩
  refine Ev.bind h1 (f := fun k t => (q1z.f k b).bind fun u => q4z.l0 k t u []) (Ev.bind k1 (f := fun k u => q4z.l0 k t u []) ?_)
  have := meet_l0 (t.length + u.length) t u [] (Nat.le_refl _) (by simp only [List.length_nil]; omega)
  rwa [List.nil_append] at this
/-! ### Union -/
theorem union_ev (a b : List S33) (hal : a.length ≤ 400000) (hbl : b.length ≤ 400000) (ha : Rng a) (hb : Rng b) : ∃ r, Ev (fun k => span_Union.f k a b) r ∧ NF r ∧ (∀ n, InS r n = (InS a n || InS b n)) ∧ r.length ≤ a.length + b.length := by
  obtain ⟨t, h1, h2, h3, h4⟩ := norm_ev (a ++ b) (by rw [List.length_append]; omega) (fun s hs => (List.mem_append.1 hs).elim (ha s) (hb s))
  refine ⟨t, Ev.congr (fun k => if_pos ⟨by omega, by omega⟩) h1, h2, fun n => by rw [h3, InS_append], by rw [List.length_append] at h4; exact h4⟩
end Go.Proofs.Ytconaifcjnpabaa.P

namespace Go.Proofs.Ytconaifcjnpabaa.P
open Go.RowKit Go.Proofs.YtconaifcjnpabaaW.PrintWords Go.Proofs.YtconaifcjnpabaaW.PrintMore
set_option linter.unusedVariables false
set_option linter.unusedSimpArgs false
theorem norm_eq (l r : List S33) (hl : l.length ≤ 1000000) (hr : Rng l) (hn : NF r) (h : ∀ n, InS r n = InS l n) : Ev (fun k => q1z.f k l) r := by
  obtain ⟨t, h1, h2, h3, _⟩ := norm_ev l hl hr
  rwa [nf_ext h2 hn (fun n => by rw [h3, h])] at h1
theorem nf1 (a b : Int) (h0 : 0 ≤ a) (h1 : a ≤ b) (h2 : b ≤ 4294967295) : NF [⟨a, b⟩] := NF_cons.2 ⟨⟨h0, h1, h2⟩, fun _ h => (List.not_mem_nil h).elim, NF_nil⟩
theorem rng1 (a b : Int) (h0 : 0 ≤ a) (h1 : a ≤ b) (h2 : b ≤ 4294967295) : Rng [⟨a, b⟩] := NF_Rng (nf1 a b h0 h1 h2)
theorem rng_cons (a b : Int) (l : List S33) (h : 0 ≤ a ∧ a ≤ 4294967295 ∧ 0 ≤ b ∧ b ≤ 4294967295) (hl : Rng l) : Rng (⟨a, b⟩ :: l) := fun s hs => by
  rcases List.mem_cons.1 hs with rfl | hs
  · exact h
  · exact hl s hs
theorem atoms_tail : ∀ m, q15z.l0 (m + 40) [2, 6, 4, 10] [[⟨2, 5⟩], [⟨4, 9⟩]] 2 2 = some [⟨0, 1⟩, ⟨2, 3⟩, ⟨4, 5⟩, ⟨6, 9⟩, ⟨10, 4294967295⟩] := by
  intro m
  kernel_rfl
theorem alive_ev : Ev (fun k => q16z.f k) true := by
  have h1 := norm_eq [⟨5, 7⟩, ⟨1, 2⟩, ⟨3, 4⟩, ⟨9, 8⟩] [⟨1, 7⟩] (by decide) (rng_cons _ _ _ (by decide) (rng_cons _ _ _ (by decide) (rng_cons _ _ _ (by decide) (rng_cons _ _ _ (by decide) (fun s hs => (List.not_mem_nil hs).elim))))) (nf1 _ _ (by decide) (by decide) (by decide)) (fun n => by
    rw [Bool.eq_iff_iff]
    simp only [InS, List.any_cons, List.any_nil, Bool.or_false, Bool.or_eq_true, inSpan_iff]
    omega)
  obtain ⟨t, n1, n2, n3, _⟩ := not_ev [⟨0, 4⟩] (by decide) (rng1 _ _ (by decide) (by decide) (by decide))
  have ht : t = [⟨5, 4294967295⟩] := nf_ext n2 (nf1 _ _ (by decide) (by decide) (by decide)) (fun n => by
    rw [n3, Bool.eq_iff_iff]
    simp only [InS, List.any_cons, List.any_nil, Bool.or_false, Bool.and_eq_true, decide_eq_true_eq, Bool.not_eq_true', inSpan, Bool.and_eq_false_iff, decide_eq_false_iff_not]
    omega)
  subst ht
  have a1 := norm_eq [⟨2, 5⟩] [⟨2, 5⟩] (by decide) (rng1 _ _ (by decide) (by decide) (by decide)) (nf1 _ _ (by decide) (by decide) (by decide)) (fun _ => rfl)
  have a2 := norm_eq [⟨4, 9⟩] [⟨4, 9⟩] (by decide) (rng1 _ _ (by decide) (by decide) (by decide)) (nf1 _ _ (by decide) (by decide) (by decide)) (fun _ => rfl)
  have at_ : Ev (fun k => q15z.f k [[⟨2, 5⟩], [⟨4, 9⟩]]) [⟨0, 1⟩, ⟨2, 3⟩, ⟨4, 5⟩, ⟨6, 9⟩, ⟨10, 4294967295⟩] := by
    refine Ev.step (g := fun k => q15z.l0 k [] [[⟨2, 5⟩], [⟨4, 9⟩]] 2 0) (fun k => ?_) (Ev.bind a1 (f := fun k t => q15z.l1 k [] [[⟨2, 5⟩], [⟨4, 9⟩]] 2 0 t (t.length : Int) 0) ?_)
    · kernel_rfl
    · refine Ev.step (f := fun k => q15z.l1 k [2, 6] [[⟨2, 5⟩], [⟨4, 9⟩]] 2 0 [⟨2, 5⟩] 1 1) (fun k => by kernel_rfl) ?_
      refine Ev.step (f := fun k => q15z.l0 k [2, 6] [[⟨2, 5⟩], [⟨4, 9⟩]] 2 1) (fun k => by kernel_rfl) ?_
      refine Ev.step (fun k => ?_) (Ev.bind a2 (f := fun k t => q15z.l1 k [2, 6] [[⟨2, 5⟩], [⟨4, 9⟩]] 2 1 t (t.length : Int) 0) ?_)
      · kernel_rfl
      · refine Ev.step (f := fun k => q15z.l1 k [2, 6, 4, 10] [[⟨2, 5⟩], [⟨4, 9⟩]] 2 1 [⟨4, 9⟩] 1 1) (fun k => by kernel_rfl) ?_
        refine Ev.step (f := fun k => q15z.l0 k [2, 6, 4, 10] [[⟨2, 5⟩], [⟨4, 9⟩]] 2 2) (fun k => by kernel_rfl) ?_
        refine ⟨40, fun k hk => ?_⟩
        obtain ⟨m, rfl⟩ : ∃ m, k = m + 40 := ⟨k - 40, by omega⟩
        exact atoms_tail m
  refine Ev.bind h1 (f := fun k t => (q2z.f k t [⟨1, 7⟩]).bind fun t171 => (if t171 = true then ((q11z.f k [⟨0, 4⟩]).bind fun t175 => ((q2z.f k t175 [⟨5, 4294967295⟩]).bind fun t181 => (if t181 = true then ((q15z.f k [[⟨2, 5⟩], [⟨4, 9⟩]]).bind fun t191 => (some ((t191.length : Int) == 5))) else (some false)))) else (some false))) ?_
  refine Ev.bind (same_ev _ (by decide)) (f := fun k t171 => if t171 = true then ((q11z.f k [⟨0, 4⟩]).bind fun t175 => ((q2z.f k t175 [⟨5, 4294967295⟩]).bind fun t181 => (if t181 = true then ((q15z.f k [[⟨2, 5⟩], [⟨4, 9⟩]]).bind fun t191 => (some ((t191.length : Int) == 5))) else (some false)))) else (some false)) ?_
  simp only [if_true]
  refine Ev.bind n1 (f := fun k t => (q2z.f k t [⟨5, 4294967295⟩]).bind fun t181 => (if t181 = true then ((q15z.f k [[⟨2, 5⟩], [⟨4, 9⟩]]).bind fun t191 => (some ((t191.length : Int) == 5))) else (some false))) ?_
  refine Ev.bind (same_ev _ (by decide)) (f := fun k t => if t = true then ((q15z.f k [[⟨2, 5⟩], [⟨4, 9⟩]]).bind fun t191 => (some ((t191.length : Int) == 5))) else (some false)) ?_
  simp only [if_true]
  exact Ev.bind at_ (f := fun _ t => some ((t.length : Int) == 5)) (Ev.congr (fun _ => by kernel_rfl) (Ev.now true))
end Go.Proofs.Ytconaifcjnpabaa.P

namespace Go.Proofs.Ytconaifcjnpabaa.P
open Go.RowKit Go.Proofs.YtconaifcjnpabaaW.PrintWords Go.Proofs.YtconaifcjnpabaaW.PrintMore
set_option linter.unusedVariables false
theorem rng_of_good (l : List S33) (h : ∀ z_ ∈ l, good33 z_) : Rng l := fun s hs => by
  obtain ⟨h0, h1⟩ := h s hs
  simp [Lit.wf, IntKind.min, IntKind.max, IntKind.signed, IntKind.bits] at h0 h1
  omega
theorem great_f (l : List S33) : q17z.f l = some (decide ((l.length : Int) > 100)) := rfl
theorem in_rng (l : List S33) (hr : Rng l) (n : Int) : InS l n = true → 0 ≤ n ∧ n ≤ 4294967295 := fun h => by
  obtain ⟨s, hs, s0, s1⟩ := (InS_iff _ _).1 h
  have := hr s hs
  omega
theorem sets_j0 (l0 l1 : List S33) (hr0 : Rng l0) (hr1 : Rng l1) (n0 : l0.length ≤ 100) (n1 : l1.length ≤ 100) : ∃ K, ∀ k, K ≤ k → q18z.j0 (k + 1) l0 l1 false = some true := by
  obtain ⟨u, ⟨K1, e1⟩, u1, u2, u3⟩ := union_ev l0 l1 (by omega) (by omega) hr0 hr1
  obtain ⟨a, ⟨K2, e2⟩, a1, a2⟩ := set_ev 1 (.inl rfl) l0 l1 hr0 hr1 (by omega) (by omega)
  obtain ⟨m, ⟨K3, e3⟩, m1, m2, m3⟩ := meet_ev l0 l1 (by omega) (by omega) hr0 hr1
  obtain ⟨b, ⟨K4, e4⟩, b1, b2⟩ := set_ev 2 (.inr (.inl rfl)) l0 l1 hr0 hr1 (by omega) (by omega)
  obtain ⟨x, ⟨K5, e5⟩, x1, x2, x3⟩ := not_ev l0 (by omega) hr0
  obtain ⟨c, ⟨K6, e6⟩, c1, c2⟩ := set_ev 3 (.inr (.inr rfl)) l0 [] hr0 (fun s hs => (List.not_mem_nil hs).elim) (by omega) (by simp)
  have h1 := in_rng l0 hr0
  have h2 := in_rng l1 hr1
  have ea : a = u := nf_ext a1 u1 (fun n => by
    rw [a2, u2]
    cases hp : InS l0 n <;> cases hq : InS l1 n <;> simp [opOf] <;> first | exact h1 n hp | exact h2 n hq)
  have eb : b = m := nf_ext b1 m1 (fun n => by
    rw [b2, m2]
    cases hp : InS l0 n <;> cases hq : InS l1 n <;> simp [opOf] <;> exact h1 n hp)
  have ec : c = x := nf_ext c1 x1 (fun n => by
    rw [c2, x2]
    simp [opOf])
  subst ea eb ec
  obtain ⟨K7, e7⟩ := same_ev a (by omega)
  obtain ⟨K8, e8⟩ := same_ev b (by omega)
  obtain ⟨K9, e9⟩ := same_ev c (by omega)
  obtain ⟨K10, e10⟩ := same_ev l0 (by omega)
  obtain ⟨K11, e11⟩ := same_ev l1 (by omega)
  refine ⟨K1 + K2 + K3 + K4 + K5 + K6 + K7 + K8 + K9 + K10 + K11, fun k hk => ?_⟩
  simp only [q18z.j0, Bool.false_eq_true, if_false, copy_f l0 (by omega), copy_f l1 (by omega), Option.bind_some, e1 k (by omega), e2 k (by omega), e3 k (by omega), e4 k (by omega), e5 k (by omega), e6 k (by omega), e7 k (by omega), e8 k (by omega), e9 k (by omega), e10 k (by omega), e11 k (by omega), if_true]
theorem pure_SpanSets (l0 : List (S33)) (l1 : List (S33)) (h0 : (∀ z_ ∈ l0, good33 z_)) (h1 : (∀ z_ ∈ l1, good33 z_)) : ∃ k, q18z.f k l0 l1 = some true := by
  have hr0 := rng_of_good l0 h0
  have hr1 := rng_of_good l1 h1
  obtain ⟨K1, e1⟩ := alive_ev
  have ht : ∀ k, q18z.j0 (k + 1) l0 l1 true = some true := fun k => by simp only [q18z.j0, if_true]
  by_cases hg0 : (l0.length : Int) > 100
  · refine ⟨K1 + 1, ?_⟩
    simp only [q18z.f, e1 (K1 + 1) (by omega), great_f, Option.bind_some, decide_eq_true hg0, if_true, ht]
  · by_cases hg1 : (l1.length : Int) > 100
    · refine ⟨K1 + 1, ?_⟩
      simp only [q18z.f, e1 (K1 + 1) (by omega), great_f, Option.bind_some, decide_eq_false hg0, decide_eq_true hg1, if_true, Bool.false_eq_true, if_false, ht]
    · obtain ⟨K2, e2⟩ := sets_j0 l0 l1 hr0 hr1 (by omega) (by omega)
      refine ⟨K1 + K2 + 1, ?_⟩
      simp only [q18z.f, e1 (K1 + K2 + 1) (by omega), great_f, Option.bind_some, decide_eq_false hg0, decide_eq_false hg1, if_true, Bool.false_eq_true, if_false, e2 (K1 + K2) (by omega)]
end Go.Proofs.Ytconaifcjnpabaa.P

namespace Go.Proofs.Ytconaifcjnpabaa.spanSets
open Go.ChangeShapes Go.WideShapes Go.ChangeAt Go.RowKit
open Go.ChangeMaps (open_string shut_string)
open Go.Proofs.YtconaifcjnpabaaW.PrintWords Go.Proofs.YtconaifcjnpabaaW.PrintLast Go.Proofs.YtconaifcjnpabaaW.PrintMore Go.Proofs.Ytconaifcjnpabaa.P
set_option linter.unusedVariables false
set_option linter.unusedSimpArgs false
theorem own : ownKnob Try.prog.godebug = none := by kernel_rfl
theorem laidOut : laidOutB Try.prog = true := by kernel_rfl
set_option maxRecDepth 100000 in
theorem lifted (os : Os) (started : os.Started) (H : Type) (enc : TypeId × Value → H) :
    ReturnsInHanded {} Try.checked os 6 .any (Rows.spanSetsSpec.pre6 enc Try.prog Try.f6 Rows.spanSetsRow.domain false) (Rows.spanSetsSpec.post enc Try.prog Try.f6 false true false false) := by
  refine returnsInHanded_of_change_sized (C := Try.checked) own started (by kernel_rfl) Try.func6
    (ChangeSpec.witness6 (enc := enc) (C := Try.checked) false ⟨#[], #[.slice none 0 0, .slice none 0 0], []⟩ 8 (by kernel_rfl) (by kernel_rfl) (by kernel_rfl) (by kernel_rfl)) ?_
  intro W base args ds gs before hval0 hW hcnd hsz0 _
  have hval : ∀ (j : Nat) t v, Try.f6.params[j]? = some t → args[j]? = some v → Value.okWide Try.prog W .any base t v := hval0
  have hW' := hW
  obtain ⟨p, q, hA0, hV, rfl, hfz, hnd⟩ := hW
  have hA : DataW.TrodAll enc Try.prog W 0 (fun _ => true) true Try.f6.params.toList args.toList ds p := hA0
  rw [Try.params6] at hA hval
  obtain ⟨v0, vs0, d0, ds0, p0, q0, hargs, rfl, rfl, h0, r0⟩ := trodAll_cons hA
  obtain ⟨v1, vs1, d1, ds1, p1, q1, rfl, rfl, rfl, h1, r1⟩ := trodAll_cons r0
  obtain ⟨rfl, rfl, rfl⟩ := trodAll_nil r1
  obtain rfl : args = #[v0, v1] := by cases args; simp_all
  obtain ⟨rfl, rfl⟩ := trodVars_none hV
  obtain ⟨a0, len0, cap0, rfl⟩ := okWide_slice Try.underlying24 (hval 0 24 v0 rfl rfl)
  have k0 := h0
  have lt0 : ∀ x ∈ p0, x.block < W.heap.size := by obtain ⟨m, hm⟩ := k0; exact DataW.trod_lt m _ _ _ hm
  obtain ⟨l0, hK0, hg0⟩ : ∃ l_ : List (S33), (Kd.slice 33 k33).K W l_ [.slice a0 len0 cap0] ∧ (∀ z_ ∈ l_, good33 z_) := by obtain ⟨fuel, hf⟩ := h0; exact (opens_slice Try.underlying24 (by kernel_rfl) opens_T33) _ _ _ (by simpa [Value.cells] using hf)
  obtain ⟨A0_, c0_, hc0, hle0, hC0⟩ := hK0
  simp only [List.cons.injEq, Value.slice.injEq, and_true] at hc0
  obtain ⟨rfl, rfl, rfl⟩ := hc0
  obtain ⟨a1, len1, cap1, rfl⟩ := okWide_slice Try.underlying24 (hval 1 24 v1 rfl rfl)
  have k1 := h1
  have lt1 : ∀ x ∈ p1, x.block < W.heap.size := by obtain ⟨m, hm⟩ := k1; exact DataW.trod_lt m _ _ _ hm
  obtain ⟨l1, hK1, hg1⟩ : ∃ l_ : List (S33), (Kd.slice 33 k33).K W l_ [.slice a1 len1 cap1] ∧ (∀ z_ ∈ l_, good33 z_) := by obtain ⟨fuel, hf⟩ := h1; exact (opens_slice Try.underlying24 (by kernel_rfl) opens_T33) _ _ _ (by simpa [Value.cells] using hf)
  obtain ⟨A1_, c1_, hc1, hle1, hC1⟩ := hK1
  simp only [List.cons.injEq, Value.slice.injEq, and_true] at hc1
  obtain ⟨rfl, rfl, rfl⟩ := hc1
  clear hA0 hval0 hsz0
  obtain ⟨k_, hk_⟩ := pure_SpanSets l0 l1 hg0 hg1
  refine (q18z.calls k_ a0 cap0 l0 a1 cap1 l1 true W hC0 hle0 hC1 hle1 hk_).mono fun e W' ⟨he, bel⟩ => ?_
  subst he
  exact ⟨_, rfl, _, _, _, [], _, [], hW', trodAll_mk1 (shut_bool Try.underlying4 _), (trodAll_cons_mk (Below.trod laidOut (by kernel_rfl) (of_decide_eq_true (by kernel_rfl)) k0 bel lt0) (trodAll_cons_mk (Below.trod laidOut (by kernel_rfl) (of_decide_eq_true (by kernel_rfl)) k1 bel lt1) trodAll_mk0)), rfl, bel.frame _, fun h => by cases h⟩
theorem over : Rows.spanSetsRow.holds Try.pinned (OpenSpec.ofChange Rows.spanSetsSpec) :=
  OpenClaim.holds_of_wide 6 Try.f6 rfl rfl rfl rfl rfl rfl rfl ⟨rfl, rfl, rfl, rfl, rfl⟩ rfl rfl rfl rfl rfl (by kernel_rfl) Try.func6 (by kernel_rfl)
    (of_decide_eq_true (by kernel_rfl)) (by unfold Func.isWrapper; first | (rw [if_pos (by decide +kernel)]; kernel_rfl) | (rw [if_neg (by decide +kernel)]; exact ⟨rfl, rfl⟩))
    (fun os started H enc _ => lifted os started H enc)
theorem proved : Rows.SpanSetsSaid := over
end Go.Proofs.Ytconaifcjnpabaa.spanSets
namespace Go.Proofs.Ytconaifcjnpabaa
/-- The row, under a short name, for the claim. -/
theorem spanSets_holds : Rows.SpanSetsSaid := spanSets.proved
#print axioms spanSets_holds
end Go.Proofs.Ytconaifcjnpabaa
