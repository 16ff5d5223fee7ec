/- Part of the proof of the law SpanCuts: the functions that it reaches, by contract. -/
import Derived.Deep.Slices
import Derived.Test.YtconaifcjnpabaaCSpanCuts0
import Derived.Test.YtconaifcjnpabaaCSpanCuts1
import Derived.Test.YtconaifcjnpabaaCSpanCuts2
namespace Go.Proofs.Ytconaifcjnpabaa.P
open Go.RowKit Go.Proofs.YtconaifcjnpabaaW.PrintWords Go.Proofs.YtconaifcjnpabaaW.PrintLast Go.Proofs.YtconaifcjnpabaaW.PrintMore
attribute [local go_sem] max2_int min2_int max_two min_two max_three min_three max_four min_four
set_option linter.unusedVariables false
set_option linter.unusedSimpArgs false

/-! ### dragomanlaw01_SpanCuts: function 5 -/
mutual
def q7z.l0 : Nat → List (List (S33)) → List (List (S33)) → Int → Int → Option (Bool)
 | 0, _, _, _, _ => none
 | k + 1, x0, x18, x19, x20 => if x20 < x19 then (if 0 ≤ x20 then (if x20 < (x18.length : Int) then (if ((rd_L2 x18 x20).length : Int) > 20 then (some true) else (q7z.l0 k x0 x18 x19 (wrap64 (x20 + 1)))) else (none)) else (none)) else ((q3z.f k x0).bind fun t3 => (if (t3.length : Int) = 0 then (q7z.j1 k x0 t3 true) else (if 0 < (t3.length : Int) then (if ((rd_T33 t3 0).f0) = 0 then (if 0 ≤ (wrap64 ((t3.length : Int) - 1)) then (if (wrap64 ((t3.length : Int) - 1)) < (t3.length : Int) then (q7z.j1 k x0 t3 (((rd_T33 t3 (wrap64 ((t3.length : Int) - 1))).f1) != 4294967295)) else (none)) else (none)) else (q7z.j1 k x0 t3 true)) else (none))))
def q7z.j1 : Nat → List (List (S33)) → List (S33) → Bool → Option (Bool)
 | 0, _, _, _ => none
 | k + 1, x0, x5, x49 => if x49 = true then (some false) else (q7z.l1 k x0 x5 x5 (x5.length : Int) 0)
def q7z.l1 : Nat → List (List (S33)) → List (S33) → List (S33) → Int → Int → Option (Bool)
 | 0, _, _, _, _, _ => none
 | k + 1, x0, x5, x50, x51, x52 => if x52 < x51 then (if 0 ≤ x52 then (if x52 < (x50.length : Int) then (if ((rd_T33 x50 x52).f0) > ((rd_T33 x50 x52).f1) then (q7z.j3 k x0 x5 x52 x50 x51 x52 true ((rd_T33 x50 x52).f0) ((rd_T33 x50 x52).f1)) else (if x52 > 0 then (if 0 ≤ (wrap64 (x52 - 1)) then (if (wrap64 (x52 - 1)) < (x5.length : Int) then (if ((rd_T33 x5 (wrap64 (x52 - 1))).f1) = 4294967295 then (q7z.j3 k x0 x5 x52 x50 x51 x52 true ((rd_T33 x50 x52).f0) ((rd_T33 x50 x52).f1)) else (q7z.j3 k x0 x5 x52 x50 x51 x52 (((rd_T33 x50 x52).f0) != ((((rd_T33 x5 (wrap64 (x52 - 1))).f1) + 1) % 4294967296)) ((rd_T33 x50 x52).f0) ((rd_T33 x50 x52).f1))) else (none)) else (none)) else (q7z.j3 k x0 x5 x52 x50 x51 x52 false ((rd_T33 x50 x52).f0) ((rd_T33 x50 x52).f1)))) else (none)) else (none)) else (some true)
def q7z.j3 : Nat → List (List (S33)) → List (S33) → Int → List (S33) → Int → Int → Bool → Int → Int → Option (Bool)
 | 0, _, _, _, _, _, _, _, _, _ => none
 | k + 1, x0, x5, x6, x50, x51, x52, x86, x10000, x10001 => if x86 = true then (some false) else (q7z.l2 k x0 x5 x6 (x6 == 0) x50 x51 x52 x0 (x0.length : Int) 0 x10000 x10001)
def q7z.l2 : Nat → List (List (S33)) → List (S33) → Int → Bool → List (S33) → Int → Int → List (List (S33)) → Int → Int → Int → Int → Option (Bool)
 | 0, _, _, _, _, _, _, _, _, _, _, _, _ => none
 | k + 1, x0, x5, x6, x8, x50, x51, x52, x89, x90, x91, x10000, x10001 => if x91 < x90 then (if 0 ≤ x91 then (if x91 < (x89.length : Int) then (if 0 ≤ x6 then (if x6 ≤ (wrap64 (x6 + 1)) then (if (wrap64 (x6 + 1)) ≤ (x5.length : Int) then ((q4z.f k (rd_L2 x89 x91) ((x5.take ((wrap64 (x6 + 1)) : Int).toNat).drop (x6 : Int).toNat)).bind fun t17 => ((span_In.f (rd_L2 x89 x91) x10000).bind fun t20 => (if t20 = true then ((q1z.f k t17 ((x5.take ((wrap64 (x6 + 1)) : Int).toNat).drop (x6 : Int).toNat)).bind fun t25 => (if t25 = true then (if x8 = true then (q7z.l2 k x0 x5 x6 true x50 x51 x52 x89 x90 (wrap64 (x91 + 1)) x10000 x10001) else (if 0 ≤ (wrap64 (x6 - 1)) then (if (wrap64 (x6 - 1)) < (x5.length : Int) then ((span_In.f (rd_L2 x89 x91) ((rd_T33 x5 (wrap64 (x6 - 1))).f0)).bind fun t27 => (q7z.l2 k x0 x5 x6 (t20 != t27) x50 x51 x52 x89 x90 (wrap64 (x91 + 1)) x10000 x10001)) else (none)) else (none))) else (some false))) else (if (t17.length : Int) = 0 then (if x8 = true then (q7z.l2 k x0 x5 x6 true x50 x51 x52 x89 x90 (wrap64 (x91 + 1)) x10000 x10001) else (if 0 ≤ (wrap64 (x6 - 1)) then (if (wrap64 (x6 - 1)) < (x5.length : Int) then ((span_In.f (rd_L2 x89 x91) ((rd_T33 x5 (wrap64 (x6 - 1))).f0)).bind fun t29 => (q7z.l2 k x0 x5 x6 (t20 != t29) x50 x51 x52 x89 x90 (wrap64 (x91 + 1)) x10000 x10001)) else (none)) else (none))) else (some false))))) else (none)) else (none)) else (none)) else (none)) else (none)) else (if x8 = true then (q7z.l1 k x0 x5 x50 x51 (wrap64 (x52 + 1))) else (some false))
end
def q7z.f (k : Nat) (l0 : List (List (S33))) : Option (Bool) := (q6z.f k).bind fun t1 => (if t1 = true then (if (l0.length : Int) > 20 then (some true) else (q7z.l0 k l0 l0 (l0.length : Int) 0)) else (some false))
theorem q7z.mono_l : ∀ k, (∀ y0 y1 y2 y3, LeO (q7z.l0 k y0 y1 y2 y3) (q7z.l0 (k + 1) y0 y1 y2 y3)) ∧ (∀ y0 y1 y2, LeO (q7z.j1 k y0 y1 y2) (q7z.j1 (k + 1) y0 y1 y2)) ∧ (∀ y0 y1 y2 y3 y4, LeO (q7z.l1 k y0 y1 y2 y3 y4) (q7z.l1 (k + 1) y0 y1 y2 y3 y4)) ∧ (∀ y0 y1 y2 y3 y4 y5 y6 y7 y8, LeO (q7z.j3 k y0 y1 y2 y3 y4 y5 y6 y7 y8) (q7z.j3 (k + 1) y0 y1 y2 y3 y4 y5 y6 y7 y8)) ∧ (∀ y0 y1 y2 y3 y4 y5 y6 y7 y8 y9 y10 y11, LeO (q7z.l2 k y0 y1 y2 y3 y4 y5 y6 y7 y8 y9 y10 y11) (q7z.l2 (k + 1) y0 y1 y2 y3 y4 y5 y6 y7 y8 y9 y10 y11))
 | 0 => ⟨fun _ _ _ _ r h => by simp [q7z.l0] at h, fun _ _ _ r h => by simp [q7z.j1] at h, fun _ _ _ _ _ r h => by simp [q7z.l1] at h, fun _ _ _ _ _ _ _ _ _ r h => by simp [q7z.j3] at h, fun _ _ _ _ _ _ _ _ _ _ _ _ r h => by simp [q7z.l2] at h⟩
 | k + 1 => by
  obtain ⟨ih0, ih1, ih2, ih3, ih4⟩ := q7z.mono_l k
  refine ⟨?_, ?_, ?_, ?_, ?_⟩
  ·
   intro y0 y1 y2 y3
   unfold q7z.l0
   repeat' first
   | (with_reducible exact ih0 _ _ _ _)
   | (with_reducible exact ih1 _ _ _)
   | (with_reducible exact ih2 _ _ _ _ _)
   | (with_reducible exact ih3 _ _ _ _ _ _ _ _ _)
   | (with_reducible exact ih4 _ _ _ _ _ _ _ _ _ _ _ _)
   | (with_reducible exact q6z.mono _)
   | (with_reducible exact q1z.mono _ _ _)
   | (with_reducible exact q3z.mono _ _)
   | (with_reducible exact q4z.mono _ _ _)
   | (with_reducible exact LeO.refl _)
   | (with_reducible exact LeO.none _)
   | (with_reducible refine LeO.ite ?_ ?_)
   | (with_reducible refine LeO.bind ?_ (fun _ => ?_))
   | exact ih0 _ _ _ _
   | exact ih1 _ _ _
   | exact ih2 _ _ _ _ _
   | exact ih3 _ _ _ _ _ _ _ _ _
   | exact ih4 _ _ _ _ _ _ _ _ _ _ _ _
   | exact q6z.mono _
   | exact q1z.mono _ _ _
   | exact q3z.mono _ _
   | exact q4z.mono _ _ _
   | exact LeO.none _
   | refine LeO.ite ?_ ?_
   | refine LeO.bind ?_ (fun _ => ?_)
  ·
   intro y0 y1 y2
   unfold q7z.j1
   repeat' first
   | (with_reducible exact ih0 _ _ _ _)
   | (with_reducible exact ih1 _ _ _)
   | (with_reducible exact ih2 _ _ _ _ _)
   | (with_reducible exact ih3 _ _ _ _ _ _ _ _ _)
   | (with_reducible exact ih4 _ _ _ _ _ _ _ _ _ _ _ _)
   | (with_reducible exact q6z.mono _)
   | (with_reducible exact q1z.mono _ _ _)
   | (with_reducible exact q3z.mono _ _)
   | (with_reducible exact q4z.mono _ _ _)
   | (with_reducible exact LeO.refl _)
   | (with_reducible exact LeO.none _)
   | (with_reducible refine LeO.ite ?_ ?_)
   | (with_reducible refine LeO.bind ?_ (fun _ => ?_))
   | exact ih0 _ _ _ _
   | exact ih1 _ _ _
   | exact ih2 _ _ _ _ _
   | exact ih3 _ _ _ _ _ _ _ _ _
   | exact ih4 _ _ _ _ _ _ _ _ _ _ _ _
   | exact q6z.mono _
   | exact q1z.mono _ _ _
   | exact q3z.mono _ _
   | exact q4z.mono _ _ _
   | exact LeO.none _
   | refine LeO.ite ?_ ?_
   | refine LeO.bind ?_ (fun _ => ?_)
  ·
   intro y0 y1 y2 y3 y4
   unfold q7z.l1
   repeat' first
   | (with_reducible exact ih0 _ _ _ _)
   | (with_reducible exact ih1 _ _ _)
   | (with_reducible exact ih2 _ _ _ _ _)
   | (with_reducible exact ih3 _ _ _ _ _ _ _ _ _)
   | (with_reducible exact ih4 _ _ _ _ _ _ _ _ _ _ _ _)
   | (with_reducible exact q6z.mono _)
   | (with_reducible exact q1z.mono _ _ _)
   | (with_reducible exact q3z.mono _ _)
   | (with_reducible exact q4z.mono _ _ _)
   | (with_reducible exact LeO.refl _)
   | (with_reducible exact LeO.none _)
   | (with_reducible refine LeO.ite ?_ ?_)
   | (with_reducible refine LeO.bind ?_ (fun _ => ?_))
   | exact ih0 _ _ _ _
   | exact ih1 _ _ _
   | exact ih2 _ _ _ _ _
   | exact ih3 _ _ _ _ _ _ _ _ _
   | exact ih4 _ _ _ _ _ _ _ _ _ _ _ _
   | exact q6z.mono _
   | exact q1z.mono _ _ _
   | exact q3z.mono _ _
   | exact q4z.mono _ _ _
   | exact LeO.none _
   | refine LeO.ite ?_ ?_
   | refine LeO.bind ?_ (fun _ => ?_)
  ·
   intro y0 y1 y2 y3 y4 y5 y6 y7 y8
   unfold q7z.j3
   repeat' first
   | (with_reducible exact ih0 _ _ _ _)
   | (with_reducible exact ih1 _ _ _)
   | (with_reducible exact ih2 _ _ _ _ _)
   | (with_reducible exact ih3 _ _ _ _ _ _ _ _ _)
   | (with_reducible exact ih4 _ _ _ _ _ _ _ _ _ _ _ _)
   | (with_reducible exact q6z.mono _)
   | (with_reducible exact q1z.mono _ _ _)
   | (with_reducible exact q3z.mono _ _)
   | (with_reducible exact q4z.mono _ _ _)
   | (with_reducible exact LeO.refl _)
   | (with_reducible exact LeO.none _)
   | (with_reducible refine LeO.ite ?_ ?_)
   | (with_reducible refine LeO.bind ?_ (fun _ => ?_))
   | exact ih0 _ _ _ _
   | exact ih1 _ _ _
   | exact ih2 _ _ _ _ _
   | exact ih3 _ _ _ _ _ _ _ _ _
   | exact ih4 _ _ _ _ _ _ _ _ _ _ _ _
   | exact q6z.mono _
   | exact q1z.mono _ _ _
   | exact q3z.mono _ _
   | exact q4z.mono _ _ _
   | exact LeO.none _
   | refine LeO.ite ?_ ?_
   | refine LeO.bind ?_ (fun _ => ?_)
  ·
   intro y0 y1 y2 y3 y4 y5 y6 y7 y8 y9 y10 y11
   unfold q7z.l2
   repeat' first
   | (with_reducible exact ih0 _ _ _ _)
   | (with_reducible exact ih1 _ _ _)
   | (with_reducible exact ih2 _ _ _ _ _)
   | (with_reducible exact ih3 _ _ _ _ _ _ _ _ _)
   | (with_reducible exact ih4 _ _ _ _ _ _ _ _ _ _ _ _)
   | (with_reducible exact q6z.mono _)
   | (with_reducible exact q1z.mono _ _ _)
   | (with_reducible exact q3z.mono _ _)
   | (with_reducible exact q4z.mono _ _ _)
   | (with_reducible exact LeO.refl _)
   | (with_reducible exact LeO.none _)
   | (with_reducible refine LeO.ite ?_ ?_)
   | (with_reducible refine LeO.bind ?_ (fun _ => ?_))
   | exact ih0 _ _ _ _
   | exact ih1 _ _ _
   | exact ih2 _ _ _ _ _
   | exact ih3 _ _ _ _ _ _ _ _ _
   | exact ih4 _ _ _ _ _ _ _ _ _ _ _ _
   | exact q6z.mono _
   | exact q1z.mono _ _ _
   | exact q3z.mono _ _
   | exact q4z.mono _ _ _
   | exact LeO.none _
   | refine LeO.ite ?_ ?_
   | refine LeO.bind ?_ (fun _ => ?_)
theorem q7z.mono : ∀ a0 k, LeO (q7z.f k a0) (q7z.f (k + 1) a0) := by
 intro a0 k
 obtain ⟨ih0, ih1, ih2, ih3, ih4⟩ := q7z.mono_l k
 unfold q7z.f
 repeat' first
   | (with_reducible exact ih0 _ _ _ _)
   | (with_reducible exact ih1 _ _ _)
   | (with_reducible exact ih2 _ _ _ _ _)
   | (with_reducible exact ih3 _ _ _ _ _ _ _ _ _)
   | (with_reducible exact ih4 _ _ _ _ _ _ _ _ _ _ _ _)
   | (with_reducible exact q6z.mono _)
   | (with_reducible exact q1z.mono _ _ _)
   | (with_reducible exact q3z.mono _ _)
   | (with_reducible exact q4z.mono _ _ _)
   | (with_reducible exact LeO.refl _)
   | (with_reducible exact LeO.none _)
   | (with_reducible refine LeO.ite ?_ ?_)
   | (with_reducible refine LeO.bind ?_ (fun _ => ?_))
   | exact ih0 _ _ _ _
   | exact ih1 _ _ _
   | exact ih2 _ _ _ _ _
   | exact ih3 _ _ _ _ _ _ _ _ _
   | exact ih4 _ _ _ _ _ _ _ _ _ _ _ _
   | exact q6z.mono _
   | exact q1z.mono _ _ _
   | exact q3z.mono _ _
   | exact q4z.mono _ _ _
   | exact LeO.none _
   | refine LeO.ite ?_ ?_
   | refine LeO.bind ?_ (fun _ => ?_)
set_option maxHeartbeats 8000000 in
set_option maxRecDepth 100000 in
theorem q7z.calls (k : Nat) (A0 : Option Addr) (c0 : Nat) (l0 : List (List (S33))) (r : Bool) (w : World) (hr0 : Kd.C (Kd.slice 33 k33) w A0 l0.length l0) (hc0 : l0.length ≤ c0) (h : q7z.f k l0 = some r) :
  Calls Try.prog 5 #[.slice A0 l0.length c0] w fun e w' => e = .returned (.bool r) ∧ Below w.heap.size w w' := by
 have hu33 := Try.underlying33
 have HR0 := Aside0.mk hr0
 have HC0 := Aside0.mk hc0
 clear hr0 hc0
 have HB := Aside0.mk (Below.refl w.heap.size w)
 have H : ((q6z.f k).bind fun t1 => (if t1 = true then (if (l0.length : Int) > 20 then (some true) else (q7z.l0 k l0 l0 (l0.length : Int) 0)) else (some false))) = some r := h
 clear h
 replace H := Option.bind_eq_some_iff.mp H
 obtain ⟨t1, A20, H⟩ := H
 replace H : (if t1 = true then (if (l0.length : Int) > 20 then (some true) else (q7z.l0 k l0 l0 (l0.length : Int) 0)) else (some false)) = some r := H
 have A2 := Aside0.mk A20
 clear A20
 by_cases c3 : t1 = true
 ·
  subst c3
  have H1 : (if (l0.length : Int) > 20 then (some true) else (q7z.l0 k l0 l0 (l0.length : Int) 0)) = some r := by rw [if_pos rfl] at H; exact H
  clear H
  have H := H1
  clear H1
  by_cases c4 : (l0.length : Int) > 20
  ·
   rw [if_pos c4] at H
   have c4b0 : decide (20 < (l0.length : Int)) = true := decide_eq_true c4
   have c4b1 : decide (20 < l0.length) = true := decide_eq_true (by omega)
   clear c4
   obtain rfl := Option.some.inj H
   go_enter Try.func5, Try.ntmps5
   go_wp2_with (first | (go_at_call 8; (with_reducible refine (q6z.calls k  true _ A2.out).mono ?_); rintro e w5 ⟨rfl, hb⟩; have n0_ := Aside0.mk (below_step (by repeat (first | (with_reducible first | exact HB.out | apply below_alloc | apply pw_below_drewN | apply below_drew1) | exact HB.out)) hb); clear HB; have HB := n0_; clear n0_; (try clear hb); (try clear hb2); (try clear hk); (try clear hi)))
   repeat (go_quiet (first | (go_at_call 8; (with_reducible refine (q6z.calls k  true _ A2.out).mono ?_); rintro e w5 ⟨rfl, hb⟩; have n0_ := Aside0.mk (below_step (by repeat (first | (with_reducible first | exact HB.out | apply below_alloc | apply pw_below_drewN | apply below_drew1) | exact HB.out)) hb); clear HB; have HB := n0_; clear n0_; (try clear hb); (try clear hb2); (try clear hk); (try clear hi))); try go_wp2_with (first | (go_at_call 8; (with_reducible refine (q6z.calls k  true _ A2.out).mono ?_); rintro e w5 ⟨rfl, hb⟩; have n0_ := Aside0.mk (below_step (by repeat (first | (with_reducible first | exact HB.out | apply below_alloc | apply pw_below_drewN | apply below_drew1) | exact HB.out)) hb); clear HB; have HB := n0_; clear n0_; (try clear hb); (try clear hb2); (try clear hk); (try clear hi))))
   go_ret
   exact ⟨by first | rfl | (simp [errW_none, errW_some] <;> rfl) | (simp [*, errW_none, errW_some] <;> rfl), by repeat (first | (with_reducible first | exact HB.out | apply below_alloc | apply pw_below_drewN | apply below_drew1) | exact HB.out)⟩
  ·
   rw [if_neg c4] at H
   have c4b0 : decide (20 < (l0.length : Int)) = false := decide_eq_false c4
   have c4b1 : decide (20 < l0.length) = false := decide_eq_false (by omega)
   clear c4
   have H' := Aside0.mk H
   clear H
   go_enter Try.func5, Try.ntmps5
   go_wp2_with (first | (go_at_call 8; (with_reducible refine (q6z.calls k  true _ A2.out).mono ?_); rintro e w6 ⟨rfl, hb⟩; have n0_ := Aside0.mk (below_step (by repeat (first | (with_reducible first | exact HB.out | apply below_alloc | apply pw_below_drewN | apply below_drew1) | exact HB.out)) hb); clear HB; have HB := n0_; clear n0_; (try clear hb); (try clear hb2); (try clear hk); (try clear hi)))
   repeat (go_quiet (first | (go_at_call 8; (with_reducible refine (q6z.calls k  true _ A2.out).mono ?_); rintro e w6 ⟨rfl, hb⟩; have n0_ := Aside0.mk (below_step (by repeat (first | (with_reducible first | exact HB.out | apply below_alloc | apply pw_below_drewN | apply below_drew1) | exact HB.out)) hb); clear HB; have HB := n0_; clear n0_; (try clear hb); (try clear hb2); (try clear hk); (try clear hi))); try go_wp2_with (first | (go_at_call 8; (with_reducible refine (q6z.calls k  true _ A2.out).mono ?_); rintro e w6 ⟨rfl, hb⟩; have n0_ := Aside0.mk (below_step (by repeat (first | (with_reducible first | exact HB.out | apply below_alloc | apply pw_below_drewN | apply below_drew1) | exact HB.out)) hb); clear HB; have HB := n0_; clear n0_; (try clear hb); (try clear hb2); (try clear hk); (try clear hi))))
   go_loopg [20] k (fun kq v20 w' => ∃ (x20_1 : Int), v20 = .int .i64 x20_1 ∧ Aside0 (q7z.l0 kq l0 l0 (l0.length : Int) x20_1 = some r) ∧ Aside0 (kq ≤ k) ∧ Aside0 (Below w.heap.size w w'))
   case atStart => exact ⟨(0), (by first | rfl | (simp; done) | (simp [*]; done)), H', ⟨Nat.le_refl _⟩, ⟨by repeat (first | (with_reducible first | exact HB.out | apply below_alloc | apply pw_below_drewN | apply below_drew1) | exact HB.out)⟩⟩
   case round =>
    clear H'
    try clear p2
    try clear c3
    try clear c4
    try clear c4b0
    try clear c4b1
    try clear c5
    obtain ⟨x20_1, rfl, HA, HK1, HB⟩ := hrel
    cases gk with
    | zero => exact absurd HA.out (by simp [q7z.l0])
    | succ k1 =>
     have H := HA.out
     clear HA
     simp only [q7z.l0] at H
     by_cases c7 : x20_1 < (l0.length : Int)
     ·
      rw [if_pos c7] at H
      have c7b0 : decide (x20_1 < (l0.length : Int)) = true := decide_eq_true c7
      clear c7
      by_cases c8 : 0 ≤ x20_1
      ·
       rw [if_pos c8] at H
       have c8b0 : decide (0 ≤ x20_1) = true := decide_eq_true c8
       clear c8
       by_cases c9 : x20_1 < (l0.length : Int)
       ·
        rw [if_pos c9] at H
        have c9b0 : decide (x20_1 < (l0.length : Int)) = true := decide_eq_true c9
        clear c9
        by_cases c10 : ((rd_L2 l0 x20_1).length : Int) > 20
        ·
         rw [if_pos c10] at H
         have c10b0 : decide (20 < ((rd_L2 l0 x20_1).length : Int)) = true := decide_eq_true c10
         have c10b1 : decide (20 < (rd_L2 l0 x20_1).length) = true := decide_eq_true (by omega)
         clear c10
         obtain rfl := Option.some.inj H
         have p2 : 0 ≤ (x20_1 : Int) := of_decide_eq_true (by first | (with_reducible assumption) | assumption)
         have q2 : x20_1 < (l0.length : Int) := of_decide_eq_true (by first | (with_reducible assumption) | assumption)
         obtain ⟨ad2, A2_0, c2_0, e2, hx2_0, hl2_0, hi2_0⟩ := at_L2 HR0.out x20_1 p2 q2
         cases e2
         replace hx2_0 := (HB.out.cell (World.block_lt_of_cell? w _ hx2_0)).trans hx2_0
         have HR2_0 := Aside0.mk hi2_0
         have HC2_0 := Aside0.mk hl2_0
         clear hi2_0 hl2_0
         replace p2 := eq_true p2
         replace q2 := eq_true q2
         go_wp2
         repeat (go_quiet (fail); try go_wp2)
         go_ret
         exact ⟨by first | rfl | (simp [errW_none, errW_some] <;> rfl) | (simp [*, errW_none, errW_some] <;> rfl), by repeat (first | (with_reducible first | exact HB.out | apply below_alloc | apply pw_below_drewN | apply below_drew1) | exact HB.out)⟩
        ·
         rw [if_neg c10] at H
         have c10b0 : decide (20 < ((rd_L2 l0 x20_1).length : Int)) = false := decide_eq_false c10
         have c10b1 : decide (20 < (rd_L2 l0 x20_1).length) = false := decide_eq_false (by omega)
         clear c10
         have H' := Aside0.mk H
         clear H
         have p2 : 0 ≤ (x20_1 : Int) := of_decide_eq_true (by first | (with_reducible assumption) | assumption)
         have q2 : x20_1 < (l0.length : Int) := of_decide_eq_true (by first | (with_reducible assumption) | assumption)
         obtain ⟨ad2, A2_0, c2_0, e2, hx2_0, hl2_0, hi2_0⟩ := at_L2 HR0.out x20_1 p2 q2
         cases e2
         replace hx2_0 := (HB.out.cell (World.block_lt_of_cell? w _ hx2_0)).trans hx2_0
         have HR2_0 := Aside0.mk hi2_0
         have HC2_0 := Aside0.mk hl2_0
         clear hi2_0 hl2_0
         replace p2 := eq_true p2
         replace q2 := eq_true q2
         go_wp2
         repeat (go_quiet (fail); try go_wp2)
         go_roundg k1
         case measure => have := HK1.out; omega
         case rel => exact ⟨(wrap64 (x20_1 + 1)), (by first | rfl | (simp; done) | (simp [*]; done)), H', ⟨by have := HK1.out; omega⟩, ⟨by repeat (first | (with_reducible first | exact HB.out | apply below_alloc | apply pw_below_drewN | apply below_drew1) | exact HB.out)⟩⟩
       ·
        rw [if_neg c9] at H
        exact absurd H (by simp)
      ·
       rw [if_neg c8] at H
       exact absurd H (by simp)
     ·
      rw [if_neg c7] at H
      have c7b0 : decide (x20_1 < (l0.length : Int)) = false := decide_eq_false c7
      clear c7
      replace H := Option.bind_eq_some_iff.mp H
      obtain ⟨t3, A110, H⟩ := H
      replace H : (if (t3.length : Int) = 0 then (q7z.j1 k1 l0 t3 true) else (if 0 < (t3.length : Int) then (if ((rd_T33 t3 0).f0) = 0 then (if 0 ≤ (wrap64 ((t3.length : Int) - 1)) then (if (wrap64 ((t3.length : Int) - 1)) < (t3.length : Int) then (q7z.j1 k1 l0 t3 (((rd_T33 t3 (wrap64 ((t3.length : Int) - 1))).f1) != 4294967295)) else (none)) else (none)) else (q7z.j1 k1 l0 t3 true)) else (none))) = some r := H
      have A11 := Aside0.mk A110
      clear A110
      have HC12 := Aside0.mk H
      clear H
      go_upto_region 12 with (first | (go_at_call 11; (with_reducible refine (q3z.calls k1 _ _ l0 t3 _ ?side1 ?side2 A11.out).mono ?_); (case side1 => repeat (first | exact (Kd.C_below HR0.out HB.out) | (with_reducible refine Kd.C_alloc ?_ _) | (with_reducible refine Kd.C_drewN ?_ _) | (with_reducible refine Kd.C_drew ?_))); (case side2 => exact HC0.out); rintro e w13 ⟨v4, rfl, ho0, hb⟩; have n0_ := Aside0.mk (Kd.R_lower ho0 (below_size (by repeat (first | (with_reducible first | exact HB.out | apply below_alloc | apply pw_below_drewN | apply below_drew1) | exact HB.out)))); have n1_ := Aside0.mk (below_step (by repeat (first | (with_reducible first | exact HB.out | apply below_alloc | apply pw_below_drewN | apply below_drew1) | exact HB.out)) hb); clear HB; have HO5 := n0_; have HB := n1_; clear n0_ n1_; (try clear hb); (try clear hb2); (try clear hk); (try clear hi); (try clear ho0)))
      repeat (go_quiet (first | (go_at_call 11; (with_reducible refine (q3z.calls k1 _ _ l0 t3 _ ?side1 ?side2 A11.out).mono ?_); (case side1 => repeat (first | exact (Kd.C_below HR0.out HB.out) | (with_reducible refine Kd.C_alloc ?_ _) | (with_reducible refine Kd.C_drewN ?_ _) | (with_reducible refine Kd.C_drew ?_))); (case side2 => exact HC0.out); rintro e w13 ⟨v4, rfl, ho0, hb⟩; have n0_ := Aside0.mk (Kd.R_lower ho0 (below_size (by repeat (first | (with_reducible first | exact HB.out | apply below_alloc | apply pw_below_drewN | apply below_drew1) | exact HB.out)))); have n1_ := Aside0.mk (below_step (by repeat (first | (with_reducible first | exact HB.out | apply below_alloc | apply pw_below_drewN | apply below_drew1) | exact HB.out)) hb); clear HB; have HO5 := n0_; have HB := n1_; clear n0_ n1_; (try clear hb); (try clear hb2); (try clear hk); (try clear hi); (try clear ho0))); go_upto_region 12 with (first | (go_at_call 11; (with_reducible refine (q3z.calls k1 _ _ l0 t3 _ ?side1 ?side2 A11.out).mono ?_); (case side1 => repeat (first | exact (Kd.C_below HR0.out HB.out) | (with_reducible refine Kd.C_alloc ?_ _) | (with_reducible refine Kd.C_drewN ?_ _) | (with_reducible refine Kd.C_drew ?_))); (case side2 => exact HC0.out); rintro e w13 ⟨v4, rfl, ho0, hb⟩; have n0_ := Aside0.mk (Kd.R_lower ho0 (below_size (by repeat (first | (with_reducible first | exact HB.out | apply below_alloc | apply pw_below_drewN | apply below_drew1) | exact HB.out)))); have n1_ := Aside0.mk (below_step (by repeat (first | (with_reducible first | exact HB.out | apply below_alloc | apply pw_below_drewN | apply below_drew1) | exact HB.out)) hb); clear HB; have HO5 := n0_; have HB := n1_; clear n0_ n1_; (try clear hb); (try clear hb2); (try clear hk); (try clear hi); (try clear ho0))))
      (try simp only [Act.put, List.setIfInBounds_toArray, List.set_cons_zero, List.set_cons_succ])
      go_cut [49] (fun v49 wc => ∃ (kq : Nat) (x49_11 : Bool), v49 = .bool x49_11 ∧ Aside0 (q7z.j1 kq l0 t3 x49_11 = some r) ∧ Aside0 (kq ≤ k1) ∧ Aside0 (Kd.R k33 33 wc w.heap.size (fun _ => True) v4 t3) ∧ Aside0 (Below w.heap.size w wc))
      case first =>
       have H := HC12.out
       clear HC12
       by_cases c14 : (t3.length : Int) = 0
       ·
        rw [if_pos c14] at H
        have c14b0 : ((t3.length : Int) == 0) = true := beq_iff_eq.mpr c14
        have c14b1 : ((t3.length : Int) != 0) = false := bne_eq_false_iff_eq.mpr c14
        clear c14
        (first | rw [c14b0] | (simp only [i64_w, i32_w, IntKind.wrap_u32]; rw [c14b0]) | skip)
        have H' := Aside0.mk H
        clear H
        obtain ⟨Ao15, co15, eo15⟩ := Kd.R_slice HO5.out
        subst eo15
        go_wp2
        repeat (go_quiet (fail); try go_wp2)
        go_meet
        case rel => exact ⟨_, (true), (by first | rfl | (simp; done) | (simp [*]; done)), H', ⟨by have := HK1.out; first | omega | exact Nat.le_refl _⟩, ⟨by (with_reducible repeat (first | apply Kd.R_alloc | apply Kd.R_drewN | apply Kd.R_drew)); exact HO5.out⟩, ⟨by repeat (first | (with_reducible first | exact HB.out | apply below_alloc | apply pw_below_drewN | apply below_drew1) | exact HB.out)⟩⟩
       ·
        rw [if_neg c14] at H
        have c14b0 : ((t3.length : Int) == 0) = false := beq_eq_false_iff_ne.mpr c14
        have c14b1 : ((t3.length : Int) != 0) = true := bne_iff_ne.mpr c14
        have c14b2 : ¬ (t3 = []) := fun h_ => c14 (by rw [h_]; rfl)
        (first | rw [c14b0] | (simp only [i64_w, i32_w, IntKind.wrap_u32]; rw [c14b0]) | skip)
        by_cases c16 : 0 < (t3.length : Int)
        ·
         rw [if_pos c16] at H
         have c16b0 : decide (0 < (t3.length : Int)) = true := decide_eq_true c16
         have c16b1 : decide (0 < t3.length) = true := decide_eq_true (by omega)
         clear c16
         by_cases c17 : ((rd_T33 t3 0).f0) = 0
         ·
          rw [if_pos c17] at H
          have c17b0 : (((rd_T33 t3 0).f0) == 0) = true := beq_iff_eq.mpr c17
          have c17b1 : (((rd_T33 t3 0).f0) != 0) = false := bne_eq_false_iff_eq.mpr c17
          clear c17
          obtain ⟨ji18, hji18⟩ : ∃ j_ : Int, (wrap64 ((t3.length : Int) - 1)) = j_ := ⟨_, rfl⟩
          replace H : (if 0 ≤ (ji18) then (if (ji18) < (t3.length : Int) then (q7z.j1 k1 l0 t3 (((rd_T33 t3 (ji18)).f1) != 4294967295)) else (none)) else (none)) = some r := by first | (rw [hji18] at H; exact H) | (simp only [hji18] at H ⊢; exact H)
          have hji18w : (IntKind.i64.wrap ((t3.length : Int) - 1)) = ji18 := (i64_w _).trans hji18
          by_cases c19 : 0 ≤ (ji18)
          ·
           rw [if_pos c19] at H
           have c19b0 : decide (0 ≤ (ji18)) = true := decide_eq_true c19
           clear c19
           by_cases c20 : (ji18) < (t3.length : Int)
           ·
            rw [if_pos c20] at H
            have c20b0 : decide ((ji18) < (t3.length : Int)) = true := decide_eq_true c20
            clear c20
            have H' := Aside0.mk H
            clear H
            obtain ⟨Ao21, co21, eo21⟩ := Kd.R_slice HO5.out
            subst eo21
            have p6 : 0 ≤ (0 : Int) := (by omega)
            have q6 : 0 < (t3.length : Int) := of_decide_eq_true (by first | (with_reducible assumption) | assumption)
            obtain ⟨ad6, e6, hx6_0, hx6_1⟩ := at_T33 (Kd.R_reads' HO5.out).2.2 0 p6 q6
            cases e6
            have qi6 : (0 < t3.length) = True := eq_true (by omega)
            (try rw [show ((0 : Int)).toNat = 0 from rfl] at hx6_0)
            (try rw [show 0 * 2 = 0 from rfl] at hx6_0)
            (try rw [Addr.add_zero'] at hx6_0)
            (try rw [show ((0 : Int)).toNat = 0 from rfl] at hx6_1)
            (try rw [show 0 * 2 = 0 from rfl] at hx6_1)
            (try rw [Addr.add_zero'] at hx6_1)
            replace p6 := eq_true p6
            replace q6 := eq_true q6
            have p7 : 0 ≤ ((ji18) : Int) := of_decide_eq_true (by first | (with_reducible assumption) | assumption)
            have q7 : (ji18) < (t3.length : Int) := of_decide_eq_true (by first | (with_reducible assumption) | assumption)
            obtain ⟨ad7, e7, hx7_0, hx7_1⟩ := at_T33 (Kd.R_reads' HO5.out).2.2 (ji18) p7 q7
            obtain rfl : ad6 = ad7 := (by injection e7)
            replace p7 := eq_true p7
            replace q7 := eq_true q7
            go_wp2
            repeat (go_quiet (fail); try go_wp2)
            go_meet
            case rel => exact ⟨_, ((((rd_T33 t3 (ji18)).f1) != 4294967295)), (by first | rfl | (simp; done) | (simp only [← hji18] <;> (first | rfl | simp)) | (simp [*]; done)), H', ⟨by have := HK1.out; first | omega | exact Nat.le_refl _⟩, ⟨by (with_reducible repeat (first | apply Kd.R_alloc | apply Kd.R_drewN | apply Kd.R_drew)); exact HO5.out⟩, ⟨by repeat (first | (with_reducible first | exact HB.out | apply below_alloc | apply pw_below_drewN | apply below_drew1) | exact HB.out)⟩⟩
           ·
            rw [if_neg c20] at H
            exact absurd H (by simp)
          ·
           rw [if_neg c19] at H
           exact absurd H (by simp)
         ·
          rw [if_neg c17] at H
          have c17b0 : (((rd_T33 t3 0).f0) == 0) = false := beq_eq_false_iff_ne.mpr c17
          have c17b1 : (((rd_T33 t3 0).f0) != 0) = true := bne_iff_ne.mpr c17
          have H' := Aside0.mk H
          clear H
          obtain ⟨Ao22, co22, eo22⟩ := Kd.R_slice HO5.out
          subst eo22
          have p6 : 0 ≤ (0 : Int) := (by omega)
          have q6 : 0 < (t3.length : Int) := of_decide_eq_true (by first | (with_reducible assumption) | assumption)
          obtain ⟨ad6, e6, hx6_0, hx6_1⟩ := at_T33 (Kd.R_reads' HO5.out).2.2 0 p6 q6
          cases e6
          have qi6 : (0 < t3.length) = True := eq_true (by omega)
          (try rw [show ((0 : Int)).toNat = 0 from rfl] at hx6_0)
          (try rw [show 0 * 2 = 0 from rfl] at hx6_0)
          (try rw [Addr.add_zero'] at hx6_0)
          (try rw [show ((0 : Int)).toNat = 0 from rfl] at hx6_1)
          (try rw [show 0 * 2 = 0 from rfl] at hx6_1)
          (try rw [Addr.add_zero'] at hx6_1)
          replace p6 := eq_true p6
          replace q6 := eq_true q6
          go_wp2
          repeat (go_quiet (fail); try go_wp2)
          go_meet
          case rel => exact ⟨_, (true), (by first | rfl | (simp; done) | (simp [*]; done)), H', ⟨by have := HK1.out; first | omega | exact Nat.le_refl _⟩, ⟨by (with_reducible repeat (first | apply Kd.R_alloc | apply Kd.R_drewN | apply Kd.R_drew)); exact HO5.out⟩, ⟨by repeat (first | (with_reducible first | exact HB.out | apply below_alloc | apply pw_below_drewN | apply below_drew1) | exact HB.out)⟩⟩
        ·
         rw [if_neg c16] at H
         exact absurd H (by simp)
      case rest =>
       clear HC12
       try clear c1
       try clear c2
       try clear p2
       try clear q2
       try clear hx2
       try clear c3
       try clear c4
       try clear c4b0
       try clear c4b1
       try clear c5
       try clear p6
       try clear q6
       try clear hx6
       try clear qi6
       try clear c7
       try clear c7b0
       try clear p7
       try clear q7
       try clear hx7
       try clear c8
       try clear c8b0
       try clear c9
       try clear c9b0
       try clear c10
       try clear c10b0
       try clear c10b1
       try clear c14
       try clear c14b0
       try clear c14b1
       try clear c14b2
       try clear c16
       try clear c16b0
       try clear c16b1
       try clear c17
       try clear c17b0
       try clear c17b1
       try clear c19
       try clear c19b0
       try clear c20
       try clear c20b0
       try clear hx2_0
       try clear hx6_0
       try clear hx6_1
       try clear hx7_0
       try clear hx7_1
       try clear p2
       try clear p6
       try clear p7
       try clear q2
       try clear q6
       try clear q7
       obtain ⟨kq, x49_11, rfl, HA, HJ11, HO_5, HB⟩ := hcut
       cases kq with
       | zero => exact absurd HA.out (by simp [q7z.j1])
       | succ kj11 =>
        have H := HA.out
        clear HA
        simp only [q7z.j1] at H
        by_cases c23 : x49_11 = true
        ·
         subst c23
         have H1 : (some false) = some r := by rw [if_pos rfl] at H; exact H
         clear H
         have H := H1
         clear H1
         obtain rfl := Option.some.inj H
         go_wp2
         repeat (go_quiet (fail); try go_wp2)
         go_ret
         exact ⟨by first | rfl | (simp [errW_none, errW_some] <;> rfl) | (simp [*, errW_none, errW_some] <;> rfl), by repeat (first | (with_reducible first | exact HB.out | apply below_alloc | apply pw_below_drewN | apply below_drew1) | exact HB.out)⟩
        ·
         replace c23 := Bool.eq_false_iff.mpr c23
         subst c23
         have H1 : (q7z.l1 kj11 l0 t3 t3 (t3.length : Int) 0) = some r := by rw [if_neg (show ¬ (false = true) by decide)] at H; exact H
         clear H
         have H := H1
         clear H1
         have H' := Aside0.mk H
         clear H
         obtain ⟨Ao24, co24, eo24⟩ := Kd.R_slice HO_5.out
         subst eo24
         go_wp2
         repeat (go_quiet (fail); try go_wp2)
         go_loopg [52] kj11 (fun kq v52 w' => ∃ (x52_3 : Int), v52 = .int .i64 x52_3 ∧ Aside0 (q7z.l1 kq l0 t3 t3 (t3.length : Int) x52_3 = some r) ∧ Aside0 (kq ≤ kj11) ∧ Aside0 (Kd.R k33 33 w' w.heap.size (fun _ => True) (.slice Ao24 t3.length co24) t3) ∧ Aside0 (Kd.R k33 33 w' w.heap.size (fun _ => True) (.slice Ao24 t3.length co24) t3) ∧ Aside0 (Below w.heap.size w w'))
         case atStart => exact ⟨(0), (by first | rfl | (simp; done) | (simp [*]; done)), H', ⟨Nat.le_refl _⟩, ⟨by (with_reducible repeat (first | apply Kd.R_alloc | apply Kd.R_drewN | apply Kd.R_drew)); exact HO_5.out⟩, ⟨by (with_reducible repeat (first | apply Kd.R_alloc | apply Kd.R_drewN | apply Kd.R_drew)); exact HO_5.out⟩, ⟨by repeat (first | (with_reducible first | exact HB.out | apply below_alloc | apply pw_below_drewN | apply below_drew1) | exact HB.out)⟩⟩
         case round =>
          clear H'
          try clear c1
          try clear c2
          try clear p2
          try clear q2
          try clear hx2
          try clear c3
          try clear c4
          try clear c4b0
          try clear c4b1
          try clear c5
          try clear p6
          try clear q6
          try clear hx6
          try clear qi6
          try clear c7
          try clear c7b0
          try clear p7
          try clear q7
          try clear hx7
          try clear c8
          try clear c8b0
          try clear c9
          try clear c9b0
          try clear c10
          try clear c10b0
          try clear c10b1
          try clear c14
          try clear c14b0
          try clear c14b1
          try clear c14b2
          try clear c16
          try clear c16b0
          try clear c16b1
          try clear c17
          try clear c17b0
          try clear c17b1
          try clear c19
          try clear c19b0
          try clear c20
          try clear c20b0
          try clear c23
          try clear hx2_0
          try clear hx6_0
          try clear hx6_1
          try clear hx7_0
          try clear hx7_1
          try clear p2
          try clear p6
          try clear p7
          try clear q2
          try clear q6
          try clear q7
          obtain ⟨x52_3, rfl, HA, HK3, HO_5, HO_50, HB⟩ := hrel
          cases gk with
          | zero => exact absurd HA.out (by simp [q7z.l1])
          | succ k3 =>
           have H := HA.out
           clear HA
           simp only [q7z.l1] at H
           by_cases c25 : x52_3 < (t3.length : Int)
           ·
            rw [if_pos c25] at H
            have c25b0 : decide (x52_3 < (t3.length : Int)) = true := decide_eq_true c25
            clear c25
            by_cases c26 : 0 ≤ x52_3
            ·
             rw [if_pos c26] at H
             have c26b0 : decide (0 ≤ x52_3) = true := decide_eq_true c26
             clear c26
             by_cases c27 : x52_3 < (t3.length : Int)
             ·
              rw [if_pos c27] at H
              have c27b0 : decide (x52_3 < (t3.length : Int)) = true := decide_eq_true c27
              clear c27
              have HC28 := Aside0.mk H
              clear H
              have p8 : 0 ≤ (x52_3 : Int) := of_decide_eq_true (by first | (with_reducible assumption) | assumption)
              have q8 : x52_3 < (t3.length : Int) := of_decide_eq_true (by first | (with_reducible assumption) | assumption)
              obtain ⟨ad8, e8, hx8_0, hx8_1⟩ := at_T33 (Kd.R_reads' HO_50.out).2.2 x52_3 p8 q8
              cases e8
              replace p8 := eq_true p8
              replace q8 := eq_true q8
              go_upto_region 17 with (first | ((with_reducible refine gate_dst (N := 7) rfl ?_); (try (refine gate_guard (by rfl) ?_; dsimp only)); refine box_event ?hg (N := 7) ?hd (cs := #[.int .u32 0, .int .u32 0]) (t := 33) ?hr ?_; (case hd => rfl); (case hg => rfl); (case hr => first | (go_simp; done) | (go_simp; rfl)); intro gb9 hg w29 hbox hb; have n0_ := Aside0.mk (Kd.R_below (Kd.R_elderB (by (with_reducible repeat (first | apply Kd.R_alloc | apply Kd.R_drewN | apply Kd.R_drew)); exact HO_5.out) gb9 (Nat.le_of_eq hg.symm)) hb); have n1_ := Aside0.mk (Kd.R_below (Kd.R_elderB (by (with_reducible repeat (first | apply Kd.R_alloc | apply Kd.R_drewN | apply Kd.R_drew)); exact HO_50.out) gb9 (Nat.le_of_eq hg.symm)) hb); have n2_ := Aside0.mk (below_step (by repeat (first | (with_reducible first | exact HB.out | apply below_alloc | apply pw_below_drewN | apply below_drew1) | exact HB.out)) hb); have n3_ := Aside0.mk (hbox); have n4_ := Aside0.mk ((by rw [hg]; exact (below_size (by repeat (first | (with_reducible first | exact HB.out | apply below_alloc | apply pw_below_drewN | apply below_drew1) | exact HB.out))) : w.heap.size ≤ gb9)); have n5_ := Aside0.mk ((by rw [hg]; exact (below_size (by repeat (first | (with_reducible first | exact HB.out | apply below_alloc | apply pw_below_drewN | apply below_drew1) | exact HB.out))) : w.heap.size ≤ gb9)); clear HO_5; clear HO_50; clear HB; have HO_5 := n0_; have HO_50 := n1_; have HB := n2_; have BK9 := n3_; have GW9 := n4_; have GE9 := n5_; clear n0_ n1_ n2_ n3_ n4_ n5_; clear hb hbox hg; have hcz30_0 : w29.cell? ⟨gb9, 0, none⟩ = some (.int .u32 0) := (blk_cell BK9.out 0).trans rfl; have hcz30_1 : w29.cell? ⟨gb9, 1, none⟩ = some (.int .u32 0) := (blk_cell BK9.out 1).trans rfl; have hfz30_0 := blk_frozen BK9.out 0; have hfz30_1 := blk_frozen BK9.out 1))
              repeat (go_quiet (first | ((with_reducible refine gate_dst (N := 7) rfl ?_); (try (refine gate_guard (by rfl) ?_; dsimp only)); refine box_event ?hg (N := 7) ?hd (cs := #[.int .u32 0, .int .u32 0]) (t := 33) ?hr ?_; (case hd => rfl); (case hg => rfl); (case hr => first | (go_simp; done) | (go_simp; rfl)); intro gb9 hg w29 hbox hb; have n0_ := Aside0.mk (Kd.R_below (Kd.R_elderB (by (with_reducible repeat (first | apply Kd.R_alloc | apply Kd.R_drewN | apply Kd.R_drew)); exact HO_5.out) gb9 (Nat.le_of_eq hg.symm)) hb); have n1_ := Aside0.mk (Kd.R_below (Kd.R_elderB (by (with_reducible repeat (first | apply Kd.R_alloc | apply Kd.R_drewN | apply Kd.R_drew)); exact HO_50.out) gb9 (Nat.le_of_eq hg.symm)) hb); have n2_ := Aside0.mk (below_step (by repeat (first | (with_reducible first | exact HB.out | apply below_alloc | apply pw_below_drewN | apply below_drew1) | exact HB.out)) hb); have n3_ := Aside0.mk (hbox); have n4_ := Aside0.mk ((by rw [hg]; exact (below_size (by repeat (first | (with_reducible first | exact HB.out | apply below_alloc | apply pw_below_drewN | apply below_drew1) | exact HB.out))) : w.heap.size ≤ gb9)); have n5_ := Aside0.mk ((by rw [hg]; exact (below_size (by repeat (first | (with_reducible first | exact HB.out | apply below_alloc | apply pw_below_drewN | apply below_drew1) | exact HB.out))) : w.heap.size ≤ gb9)); clear HO_5; clear HO_50; clear HB; have HO_5 := n0_; have HO_50 := n1_; have HB := n2_; have BK9 := n3_; have GW9 := n4_; have GE9 := n5_; clear n0_ n1_ n2_ n3_ n4_ n5_; clear hb hbox hg; have hcz30_0 : w29.cell? ⟨gb9, 0, none⟩ = some (.int .u32 0) := (blk_cell BK9.out 0).trans rfl; have hcz30_1 : w29.cell? ⟨gb9, 1, none⟩ = some (.int .u32 0) := (blk_cell BK9.out 1).trans rfl; have hfz30_0 := blk_frozen BK9.out 0; have hfz30_1 := blk_frozen BK9.out 1)); go_upto_region 17 with (first | ((with_reducible refine gate_dst (N := 7) rfl ?_); (try (refine gate_guard (by rfl) ?_; dsimp only)); refine box_event ?hg (N := 7) ?hd (cs := #[.int .u32 0, .int .u32 0]) (t := 33) ?hr ?_; (case hd => rfl); (case hg => rfl); (case hr => first | (go_simp; done) | (go_simp; rfl)); intro gb9 hg w29 hbox hb; have n0_ := Aside0.mk (Kd.R_below (Kd.R_elderB (by (with_reducible repeat (first | apply Kd.R_alloc | apply Kd.R_drewN | apply Kd.R_drew)); exact HO_5.out) gb9 (Nat.le_of_eq hg.symm)) hb); have n1_ := Aside0.mk (Kd.R_below (Kd.R_elderB (by (with_reducible repeat (first | apply Kd.R_alloc | apply Kd.R_drewN | apply Kd.R_drew)); exact HO_50.out) gb9 (Nat.le_of_eq hg.symm)) hb); have n2_ := Aside0.mk (below_step (by repeat (first | (with_reducible first | exact HB.out | apply below_alloc | apply pw_below_drewN | apply below_drew1) | exact HB.out)) hb); have n3_ := Aside0.mk (hbox); have n4_ := Aside0.mk ((by rw [hg]; exact (below_size (by repeat (first | (with_reducible first | exact HB.out | apply below_alloc | apply pw_below_drewN | apply below_drew1) | exact HB.out))) : w.heap.size ≤ gb9)); have n5_ := Aside0.mk ((by rw [hg]; exact (below_size (by repeat (first | (with_reducible first | exact HB.out | apply below_alloc | apply pw_below_drewN | apply below_drew1) | exact HB.out))) : w.heap.size ≤ gb9)); clear HO_5; clear HO_50; clear HB; have HO_5 := n0_; have HO_50 := n1_; have HB := n2_; have BK9 := n3_; have GW9 := n4_; have GE9 := n5_; clear n0_ n1_ n2_ n3_ n4_ n5_; clear hb hbox hg; have hcz30_0 : w29.cell? ⟨gb9, 0, none⟩ = some (.int .u32 0) := (blk_cell BK9.out 0).trans rfl; have hcz30_1 : w29.cell? ⟨gb9, 1, none⟩ = some (.int .u32 0) := (blk_cell BK9.out 1).trans rfl; have hfz30_0 := blk_frozen BK9.out 0; have hfz30_1 := blk_frozen BK9.out 1)))
              (try simp only [Act.put, List.setIfInBounds_toArray, List.set_cons_zero, List.set_cons_succ])
              go_cut [86] (fun v86 wc => ∃ (kq : Nat) (x86_27 : Bool), v86 = .bool x86_27 ∧ Aside0 (q7z.j3 kq l0 t3 x52_3 t3 (t3.length : Int) x52_3 x86_27 ((rd_T33 t3 x52_3).f0) ((rd_T33 t3 x52_3).f1) = some r) ∧ Aside0 (kq ≤ k3) ∧ Aside0 (Kd.R k33 33 wc w.heap.size (fun k_ => k_ ≠ gb9) (.slice (some ad8) t3.length co24) t3) ∧ Aside0 (Kd.R k33 33 wc w.heap.size (fun k_ => k_ ≠ gb9) (.slice (some ad8) t3.length co24) t3) ∧ Aside0 (wc.heap[gb9]? = some (.cells #[.int .u32 ((rd_T33 t3 x52_3).f0), .int .u32 ((rd_T33 t3 x52_3).f1)] 33 (0, 0))) ∧ Aside0 (Below w.heap.size w wc))
              case first =>
               have H := HC28.out
               clear HC28
               by_cases c31 : ((rd_T33 t3 x52_3).f0) > ((rd_T33 t3 x52_3).f1)
               ·
                rw [if_pos c31] at H
                have c31b0 : decide (((rd_T33 t3 x52_3).f1) < ((rd_T33 t3 x52_3).f0)) = true := decide_eq_true c31
                clear c31
                (first | rw [c31b0] | (simp only [i64_w, i32_w, IntKind.wrap_u32]; rw [c31b0]) | skip)
                have H' := Aside0.mk H
                clear H
                have hcz32_0 : w29.cell? ⟨gb9, 0, none⟩ = some (.int .u32 0) := (blk_cell BK9.out 0).trans rfl
                have hcz32_1 : w29.cell? ⟨gb9, 1, none⟩ = some (.int .u32 0) := (blk_cell BK9.out 1).trans rfl
                have hfz32_0 := blk_frozen BK9.out 0
                have hfz32_1 := blk_frozen BK9.out 1
                go_wp2
                repeat (go_quiet (fail); try go_wp2)
                go_meet
                case rel => exact ⟨_, (true), (by first | rfl | (simp; done) | (simp [*]; done)), H', ⟨by have := HK1.out; have := HJ11.out; have := HK3.out; first | omega | exact Nat.le_refl _⟩, ⟨by (with_reducible repeat (first | apply Kd.R_alloc | apply Kd.R_drewN | apply Kd.R_drew)); exact Kd.R_mono (Kd.R_far (p := ⟨gb9, 1, none⟩) (Kd.R_far (p := ⟨gb9, 0, none⟩) (Kd.R_mono HO_5.out (fun k_ hk => (⟨hk, hk.2⟩ : _ ∧ k_ ≠ gb9))) (fun _ hk => hk.2) (.int .u32 ((rd_T33 t3 x52_3).f0))) (fun _ hk => hk.2) (.int .u32 ((rd_T33 t3 x52_3).f1))) (fun _ hk => hk.1.2)⟩, ⟨by (with_reducible repeat (first | apply Kd.R_alloc | apply Kd.R_drewN | apply Kd.R_drew)); exact Kd.R_mono (Kd.R_far (p := ⟨gb9, 1, none⟩) (Kd.R_far (p := ⟨gb9, 0, none⟩) (Kd.R_mono HO_50.out (fun k_ hk => (⟨hk, hk.2⟩ : _ ∧ k_ ≠ gb9))) (fun _ hk => hk.2) (.int .u32 ((rd_T33 t3 x52_3).f0))) (fun _ hk => hk.2) (.int .u32 ((rd_T33 t3 x52_3).f1))) (fun _ hk => hk.1.2)⟩, ⟨by (with_reducible repeat (first | refine blk_drewN ?_ _ | refine blk_drew ?_ | refine blk_alloc ?_ _)); refine blk_put (cs := #[.int .u32 ((rd_T33 t3 x52_3).f0), .int .u32 0]) ?_ 1 _ rfl; (with_reducible repeat (first | refine blk_drewN ?_ _ | refine blk_drew ?_ | refine blk_alloc ?_ _)); refine blk_put (cs := #[.int .u32 0, .int .u32 0]) ?_ 0 _ rfl; (with_reducible repeat (first | refine blk_drewN ?_ _ | refine blk_drew ?_ | refine blk_alloc ?_ _)); exact BK9.out⟩, ⟨by repeat (first | (with_reducible first | exact HB.out | apply below_alloc | apply pw_below_drewN | apply below_drew1 | refine below_set ?_ GE9.out) | exact HB.out)⟩⟩
               ·
                rw [if_neg c31] at H
                have c31b0 : decide (((rd_T33 t3 x52_3).f1) < ((rd_T33 t3 x52_3).f0)) = false := decide_eq_false c31
                clear c31
                (first | rw [c31b0] | (simp only [i64_w, i32_w, IntKind.wrap_u32]; rw [c31b0]) | skip)
                by_cases c33 : x52_3 > 0
                ·
                 rw [if_pos c33] at H
                 have c33b0 : decide (0 < x52_3) = true := decide_eq_true c33
                 clear c33
                 obtain ⟨ji34, hji34⟩ : ∃ j_ : Int, (wrap64 (x52_3 - 1)) = j_ := ⟨_, rfl⟩
                 replace H : (if 0 ≤ (ji34) then (if (ji34) < (t3.length : Int) then (if ((rd_T33 t3 (ji34)).f1) = 4294967295 then (q7z.j3 k3 l0 t3 x52_3 t3 (t3.length : Int) x52_3 true ((rd_T33 t3 x52_3).f0) ((rd_T33 t3 x52_3).f1)) else (q7z.j3 k3 l0 t3 x52_3 t3 (t3.length : Int) x52_3 (((rd_T33 t3 x52_3).f0) != ((((rd_T33 t3 (ji34)).f1) + 1) % 4294967296)) ((rd_T33 t3 x52_3).f0) ((rd_T33 t3 x52_3).f1))) else (none)) else (none)) = some r := by first | (rw [hji34] at H; exact H) | (simp only [hji34] at H ⊢; exact H)
                 have hji34w : (IntKind.i64.wrap (x52_3 - 1)) = ji34 := (i64_w _).trans hji34
                 by_cases c35 : 0 ≤ (ji34)
                 ·
                  rw [if_pos c35] at H
                  have c35b0 : decide (0 ≤ (ji34)) = true := decide_eq_true c35
                  clear c35
                  by_cases c36 : (ji34) < (t3.length : Int)
                  ·
                   rw [if_pos c36] at H
                   have c36b0 : decide ((ji34) < (t3.length : Int)) = true := decide_eq_true c36
                   clear c36
                   by_cases c37 : ((rd_T33 t3 (ji34)).f1) = 4294967295
                   ·
                    rw [if_pos c37] at H
                    have c37b0 : (((rd_T33 t3 (ji34)).f1) == 4294967295) = true := beq_iff_eq.mpr c37
                    have c37b1 : (((rd_T33 t3 (ji34)).f1) != 4294967295) = false := bne_eq_false_iff_eq.mpr c37
                    clear c37
                    have H' := Aside0.mk H
                    clear H
                    have hcz38_0 : w29.cell? ⟨gb9, 0, none⟩ = some (.int .u32 0) := (blk_cell BK9.out 0).trans rfl
                    have hcz38_1 : w29.cell? ⟨gb9, 1, none⟩ = some (.int .u32 0) := (blk_cell BK9.out 1).trans rfl
                    have hfz38_0 := blk_frozen BK9.out 0
                    have hfz38_1 := blk_frozen BK9.out 1
                    have p10 : 0 ≤ ((ji34) : Int) := of_decide_eq_true (by first | (with_reducible assumption) | assumption)
                    have q10 : (ji34) < (t3.length : Int) := of_decide_eq_true (by first | (with_reducible assumption) | assumption)
                    obtain ⟨ad10, e10, hx10_0, hx10_1⟩ := at_T33 (Kd.R_reads' HO_5.out).2.2 (ji34) p10 q10
                    obtain rfl : ad8 = ad10 := (by injection e10)
                    have hn10_0 : ad8.block ≠ gb9 := Kd.own_blk (Kd.R_away HO_5.out (fun _ hk => by first | exact hk.2 | exact hk.1.2 | exact hk.2.1 | exact hk.2.2 | exact hk.1.1.2 | exact hk.1.2.2))
                    have hn10_1 : ad8.block ≠ gb9 := Kd.own_blk (Kd.R_away HO_5.out (fun _ hk => by first | exact hk.2 | exact hk.1.2 | exact hk.2.1 | exact hk.2.2 | exact hk.1.1.2 | exact hk.1.2.2))
                    replace hx10_0 := (cell_far (p := ⟨gb9, 0, none⟩) (by first | (rw [add_block]; exact hn10_0) | (show (Addr.add _ _).block ≠ _; rw [add_block]; exact hn10_0) | exact hn10_0) (.int .u32 ((rd_T33 t3 x52_3).f0))).trans hx10_0
                    replace hx10_1 := (cell_far (p := ⟨gb9, 0, none⟩) (by first | (rw [add_block]; exact hn10_0) | (show (Addr.add _ _).block ≠ _; rw [add_block]; exact hn10_0) | exact hn10_0) (.int .u32 ((rd_T33 t3 x52_3).f0))).trans hx10_1
                    replace hx10_0 := (cell_far (p := ⟨gb9, 1, none⟩) (by first | (rw [add_block]; exact hn10_1) | (show (Addr.add _ _).block ≠ _; rw [add_block]; exact hn10_1) | exact hn10_1) (.int .u32 ((rd_T33 t3 x52_3).f1))).trans hx10_0
                    replace hx10_1 := (cell_far (p := ⟨gb9, 1, none⟩) (by first | (rw [add_block]; exact hn10_1) | (show (Addr.add _ _).block ≠ _; rw [add_block]; exact hn10_1) | exact hn10_1) (.int .u32 ((rd_T33 t3 x52_3).f1))).trans hx10_1
                    (try have hy10_0 := fun (n_ : Nat) => (show ((((w29.drewN n_).setCell ⟨gb9, 0, none⟩ (.int .u32 ((rd_T33 t3 x52_3).f0))).setCell ⟨gb9, 1, none⟩ (.int .u32 ((rd_T33 t3 x52_3).f1)))).cell? _ = some _ from hx10_0))
                    (try have hy10_1 := fun (n_ : Nat) => (show ((((w29.drewN n_).setCell ⟨gb9, 0, none⟩ (.int .u32 ((rd_T33 t3 x52_3).f0))).setCell ⟨gb9, 1, none⟩ (.int .u32 ((rd_T33 t3 x52_3).f1)))).cell? _ = some _ from hx10_1))
                    clear hn10_0
                    clear hn10_1
                    replace p10 := eq_true p10
                    replace q10 := eq_true q10
                    go_wp2
                    repeat (go_quiet (fail); try go_wp2)
                    go_meet
                    case rel => exact ⟨_, (true), (by first | rfl | (simp; done) | (simp [*]; done)), H', ⟨by have := HK1.out; have := HJ11.out; have := HK3.out; first | omega | exact Nat.le_refl _⟩, ⟨by (with_reducible repeat (first | apply Kd.R_alloc | apply Kd.R_drewN | apply Kd.R_drew)); exact Kd.R_mono (Kd.R_far (p := ⟨gb9, 1, none⟩) (Kd.R_far (p := ⟨gb9, 0, none⟩) (Kd.R_mono HO_5.out (fun k_ hk => (⟨hk, hk.2⟩ : _ ∧ k_ ≠ gb9))) (fun _ hk => hk.2) (.int .u32 ((rd_T33 t3 x52_3).f0))) (fun _ hk => hk.2) (.int .u32 ((rd_T33 t3 x52_3).f1))) (fun _ hk => hk.1.2)⟩, ⟨by (with_reducible repeat (first | apply Kd.R_alloc | apply Kd.R_drewN | apply Kd.R_drew)); exact Kd.R_mono (Kd.R_far (p := ⟨gb9, 1, none⟩) (Kd.R_far (p := ⟨gb9, 0, none⟩) (Kd.R_mono HO_50.out (fun k_ hk => (⟨hk, hk.2⟩ : _ ∧ k_ ≠ gb9))) (fun _ hk => hk.2) (.int .u32 ((rd_T33 t3 x52_3).f0))) (fun _ hk => hk.2) (.int .u32 ((rd_T33 t3 x52_3).f1))) (fun _ hk => hk.1.2)⟩, ⟨by (with_reducible repeat (first | refine blk_drewN ?_ _ | refine blk_drew ?_ | refine blk_alloc ?_ _)); refine blk_put (cs := #[.int .u32 ((rd_T33 t3 x52_3).f0), .int .u32 0]) ?_ 1 _ rfl; (with_reducible repeat (first | refine blk_drewN ?_ _ | refine blk_drew ?_ | refine blk_alloc ?_ _)); refine blk_put (cs := #[.int .u32 0, .int .u32 0]) ?_ 0 _ rfl; (with_reducible repeat (first | refine blk_drewN ?_ _ | refine blk_drew ?_ | refine blk_alloc ?_ _)); exact BK9.out⟩, ⟨by repeat (first | (with_reducible first | exact HB.out | apply below_alloc | apply pw_below_drewN | apply below_drew1 | refine below_set ?_ GE9.out) | exact HB.out)⟩⟩
                   ·
                    rw [if_neg c37] at H
                    have c37b0 : (((rd_T33 t3 (ji34)).f1) == 4294967295) = false := beq_eq_false_iff_ne.mpr c37
                    have c37b1 : (((rd_T33 t3 (ji34)).f1) != 4294967295) = true := bne_iff_ne.mpr c37
                    have H' := Aside0.mk H
                    clear H
                    have hcz39_0 : w29.cell? ⟨gb9, 0, none⟩ = some (.int .u32 0) := (blk_cell BK9.out 0).trans rfl
                    have hcz39_1 : w29.cell? ⟨gb9, 1, none⟩ = some (.int .u32 0) := (blk_cell BK9.out 1).trans rfl
                    have hfz39_0 := blk_frozen BK9.out 0
                    have hfz39_1 := blk_frozen BK9.out 1
                    have p10 : 0 ≤ ((ji34) : Int) := of_decide_eq_true (by first | (with_reducible assumption) | assumption)
                    have q10 : (ji34) < (t3.length : Int) := of_decide_eq_true (by first | (with_reducible assumption) | assumption)
                    obtain ⟨ad10, e10, hx10_0, hx10_1⟩ := at_T33 (Kd.R_reads' HO_5.out).2.2 (ji34) p10 q10
                    obtain rfl : ad8 = ad10 := (by injection e10)
                    have hn10_0 : ad8.block ≠ gb9 := Kd.own_blk (Kd.R_away HO_5.out (fun _ hk => by first | exact hk.2 | exact hk.1.2 | exact hk.2.1 | exact hk.2.2 | exact hk.1.1.2 | exact hk.1.2.2))
                    have hn10_1 : ad8.block ≠ gb9 := Kd.own_blk (Kd.R_away HO_5.out (fun _ hk => by first | exact hk.2 | exact hk.1.2 | exact hk.2.1 | exact hk.2.2 | exact hk.1.1.2 | exact hk.1.2.2))
                    replace hx10_0 := (cell_far (p := ⟨gb9, 0, none⟩) (by first | (rw [add_block]; exact hn10_0) | (show (Addr.add _ _).block ≠ _; rw [add_block]; exact hn10_0) | exact hn10_0) (.int .u32 ((rd_T33 t3 x52_3).f0))).trans hx10_0
                    replace hx10_1 := (cell_far (p := ⟨gb9, 0, none⟩) (by first | (rw [add_block]; exact hn10_0) | (show (Addr.add _ _).block ≠ _; rw [add_block]; exact hn10_0) | exact hn10_0) (.int .u32 ((rd_T33 t3 x52_3).f0))).trans hx10_1
                    replace hx10_0 := (cell_far (p := ⟨gb9, 1, none⟩) (by first | (rw [add_block]; exact hn10_1) | (show (Addr.add _ _).block ≠ _; rw [add_block]; exact hn10_1) | exact hn10_1) (.int .u32 ((rd_T33 t3 x52_3).f1))).trans hx10_0
                    replace hx10_1 := (cell_far (p := ⟨gb9, 1, none⟩) (by first | (rw [add_block]; exact hn10_1) | (show (Addr.add _ _).block ≠ _; rw [add_block]; exact hn10_1) | exact hn10_1) (.int .u32 ((rd_T33 t3 x52_3).f1))).trans hx10_1
                    (try have hy10_0 := fun (n_ : Nat) => (show ((((w29.drewN n_).setCell ⟨gb9, 0, none⟩ (.int .u32 ((rd_T33 t3 x52_3).f0))).setCell ⟨gb9, 1, none⟩ (.int .u32 ((rd_T33 t3 x52_3).f1)))).cell? _ = some _ from hx10_0))
                    (try have hy10_1 := fun (n_ : Nat) => (show ((((w29.drewN n_).setCell ⟨gb9, 0, none⟩ (.int .u32 ((rd_T33 t3 x52_3).f0))).setCell ⟨gb9, 1, none⟩ (.int .u32 ((rd_T33 t3 x52_3).f1)))).cell? _ = some _ from hx10_1))
                    clear hn10_0
                    clear hn10_1
                    replace p10 := eq_true p10
                    replace q10 := eq_true q10
                    have p11 : 0 ≤ ((ji34) : Int) := of_decide_eq_true (by first | (with_reducible assumption) | assumption)
                    have q11 : (ji34) < (t3.length : Int) := of_decide_eq_true (by first | (with_reducible assumption) | assumption)
                    obtain ⟨ad11, e11, hx11_0, hx11_1⟩ := at_T33 (Kd.R_reads' HO_5.out).2.2 (ji34) p11 q11
                    obtain rfl : ad8 = ad11 := (by injection e11)
                    have hn11_0 : ad8.block ≠ gb9 := Kd.own_blk (Kd.R_away HO_5.out (fun _ hk => by first | exact hk.2 | exact hk.1.2 | exact hk.2.1 | exact hk.2.2 | exact hk.1.1.2 | exact hk.1.2.2))
                    have hn11_1 : ad8.block ≠ gb9 := Kd.own_blk (Kd.R_away HO_5.out (fun _ hk => by first | exact hk.2 | exact hk.1.2 | exact hk.2.1 | exact hk.2.2 | exact hk.1.1.2 | exact hk.1.2.2))
                    replace hx11_0 := (cell_far (p := ⟨gb9, 0, none⟩) (by first | (rw [add_block]; exact hn11_0) | (show (Addr.add _ _).block ≠ _; rw [add_block]; exact hn11_0) | exact hn11_0) (.int .u32 ((rd_T33 t3 x52_3).f0))).trans hx11_0
                    replace hx11_1 := (cell_far (p := ⟨gb9, 0, none⟩) (by first | (rw [add_block]; exact hn11_0) | (show (Addr.add _ _).block ≠ _; rw [add_block]; exact hn11_0) | exact hn11_0) (.int .u32 ((rd_T33 t3 x52_3).f0))).trans hx11_1
                    replace hx11_0 := (cell_far (p := ⟨gb9, 1, none⟩) (by first | (rw [add_block]; exact hn11_1) | (show (Addr.add _ _).block ≠ _; rw [add_block]; exact hn11_1) | exact hn11_1) (.int .u32 ((rd_T33 t3 x52_3).f1))).trans hx11_0
                    replace hx11_1 := (cell_far (p := ⟨gb9, 1, none⟩) (by first | (rw [add_block]; exact hn11_1) | (show (Addr.add _ _).block ≠ _; rw [add_block]; exact hn11_1) | exact hn11_1) (.int .u32 ((rd_T33 t3 x52_3).f1))).trans hx11_1
                    (try have hy11_0 := fun (n_ : Nat) => (show ((((w29.drewN n_).setCell ⟨gb9, 0, none⟩ (.int .u32 ((rd_T33 t3 x52_3).f0))).setCell ⟨gb9, 1, none⟩ (.int .u32 ((rd_T33 t3 x52_3).f1)))).cell? _ = some _ from hx11_0))
                    (try have hy11_1 := fun (n_ : Nat) => (show ((((w29.drewN n_).setCell ⟨gb9, 0, none⟩ (.int .u32 ((rd_T33 t3 x52_3).f0))).setCell ⟨gb9, 1, none⟩ (.int .u32 ((rd_T33 t3 x52_3).f1)))).cell? _ = some _ from hx11_1))
                    clear hn11_0
                    clear hn11_1
                    replace p11 := eq_true p11
                    replace q11 := eq_true q11
                    go_wp2
                    repeat (go_quiet (fail); try go_wp2)
                    go_meet
                    case rel => exact ⟨_, ((((rd_T33 t3 x52_3).f0) != ((((rd_T33 t3 (ji34)).f1) + 1) % 4294967296))), (by first | rfl | (simp; done) | (simp only [← hji34] <;> (first | rfl | simp)) | (simp [*]; done)), H', ⟨by have := HK1.out; have := HJ11.out; have := HK3.out; first | omega | exact Nat.le_refl _⟩, ⟨by (with_reducible repeat (first | apply Kd.R_alloc | apply Kd.R_drewN | apply Kd.R_drew)); exact Kd.R_mono (Kd.R_far (p := ⟨gb9, 1, none⟩) (Kd.R_far (p := ⟨gb9, 0, none⟩) (Kd.R_mono HO_5.out (fun k_ hk => (⟨hk, hk.2⟩ : _ ∧ k_ ≠ gb9))) (fun _ hk => hk.2) (.int .u32 ((rd_T33 t3 x52_3).f0))) (fun _ hk => hk.2) (.int .u32 ((rd_T33 t3 x52_3).f1))) (fun _ hk => hk.1.2)⟩, ⟨by (with_reducible repeat (first | apply Kd.R_alloc | apply Kd.R_drewN | apply Kd.R_drew)); exact Kd.R_mono (Kd.R_far (p := ⟨gb9, 1, none⟩) (Kd.R_far (p := ⟨gb9, 0, none⟩) (Kd.R_mono HO_50.out (fun k_ hk => (⟨hk, hk.2⟩ : _ ∧ k_ ≠ gb9))) (fun _ hk => hk.2) (.int .u32 ((rd_T33 t3 x52_3).f0))) (fun _ hk => hk.2) (.int .u32 ((rd_T33 t3 x52_3).f1))) (fun _ hk => hk.1.2)⟩, ⟨by (with_reducible repeat (first | refine blk_drewN ?_ _ | refine blk_drew ?_ | refine blk_alloc ?_ _)); refine blk_put (cs := #[.int .u32 ((rd_T33 t3 x52_3).f0), .int .u32 0]) ?_ 1 _ rfl; (with_reducible repeat (first | refine blk_drewN ?_ _ | refine blk_drew ?_ | refine blk_alloc ?_ _)); refine blk_put (cs := #[.int .u32 0, .int .u32 0]) ?_ 0 _ rfl; (with_reducible repeat (first | refine blk_drewN ?_ _ | refine blk_drew ?_ | refine blk_alloc ?_ _)); exact BK9.out⟩, ⟨by repeat (first | (with_reducible first | exact HB.out | apply below_alloc | apply pw_below_drewN | apply below_drew1 | refine below_set ?_ GE9.out) | exact HB.out)⟩⟩
                  ·
                   rw [if_neg c36] at H
                   exact absurd H (by simp)
                 ·
                  rw [if_neg c35] at H
                  exact absurd H (by simp)
                ·
                 rw [if_neg c33] at H
                 have c33b0 : decide (0 < x52_3) = false := decide_eq_false c33
                 clear c33
                 have H' := Aside0.mk H
                 clear H
                 have hcz40_0 : w29.cell? ⟨gb9, 0, none⟩ = some (.int .u32 0) := (blk_cell BK9.out 0).trans rfl
                 have hcz40_1 : w29.cell? ⟨gb9, 1, none⟩ = some (.int .u32 0) := (blk_cell BK9.out 1).trans rfl
                 have hfz40_0 := blk_frozen BK9.out 0
                 have hfz40_1 := blk_frozen BK9.out 1
                 go_wp2
                 repeat (go_quiet (fail); try go_wp2)
                 go_meet
                 case rel => exact ⟨_, (false), (by first | rfl | (simp; done) | (simp [*]; done)), H', ⟨by have := HK1.out; have := HJ11.out; have := HK3.out; first | omega | exact Nat.le_refl _⟩, ⟨by (with_reducible repeat (first | apply Kd.R_alloc | apply Kd.R_drewN | apply Kd.R_drew)); exact Kd.R_mono (Kd.R_far (p := ⟨gb9, 1, none⟩) (Kd.R_far (p := ⟨gb9, 0, none⟩) (Kd.R_mono HO_5.out (fun k_ hk => (⟨hk, hk.2⟩ : _ ∧ k_ ≠ gb9))) (fun _ hk => hk.2) (.int .u32 ((rd_T33 t3 x52_3).f0))) (fun _ hk => hk.2) (.int .u32 ((rd_T33 t3 x52_3).f1))) (fun _ hk => hk.1.2)⟩, ⟨by (with_reducible repeat (first | apply Kd.R_alloc | apply Kd.R_drewN | apply Kd.R_drew)); exact Kd.R_mono (Kd.R_far (p := ⟨gb9, 1, none⟩) (Kd.R_far (p := ⟨gb9, 0, none⟩) (Kd.R_mono HO_50.out (fun k_ hk => (⟨hk, hk.2⟩ : _ ∧ k_ ≠ gb9))) (fun _ hk => hk.2) (.int .u32 ((rd_T33 t3 x52_3).f0))) (fun _ hk => hk.2) (.int .u32 ((rd_T33 t3 x52_3).f1))) (fun _ hk => hk.1.2)⟩, ⟨by (with_reducible repeat (first | refine blk_drewN ?_ _ | refine blk_drew ?_ | refine blk_alloc ?_ _)); refine blk_put (cs := #[.int .u32 ((rd_T33 t3 x52_3).f0), .int .u32 0]) ?_ 1 _ rfl; (with_reducible repeat (first | refine blk_drewN ?_ _ | refine blk_drew ?_ | refine blk_alloc ?_ _)); refine blk_put (cs := #[.int .u32 0, .int .u32 0]) ?_ 0 _ rfl; (with_reducible repeat (first | refine blk_drewN ?_ _ | refine blk_drew ?_ | refine blk_alloc ?_ _)); exact BK9.out⟩, ⟨by repeat (first | (with_reducible first | exact HB.out | apply below_alloc | apply pw_below_drewN | apply below_drew1 | refine below_set ?_ GE9.out) | exact HB.out)⟩⟩
              case rest =>
               clear HC28
               try clear c1
               try clear p1
               try clear q1
               try clear hx1
               try clear c2
               try clear p2
               try clear q2
               try clear hx2
               try clear c3
               try clear c4
               try clear c4b0
               try clear c4b1
               try clear c5
               try clear p6
               try clear q6
               try clear hx6
               try clear qi6
               try clear c7
               try clear c7b0
               try clear p7
               try clear q7
               try clear hx7
               try clear c8
               try clear c8b0
               try clear p8
               try clear q8
               try clear hx8
               try clear c9
               try clear c9b0
               try clear c10
               try clear c10b0
               try clear c10b1
               try clear p10
               try clear q10
               try clear hx10
               try clear p11
               try clear q11
               try clear hx11
               try clear c14
               try clear c14b0
               try clear c14b1
               try clear c14b2
               try clear c16
               try clear c16b0
               try clear c16b1
               try clear c17
               try clear c17b0
               try clear c17b1
               try clear c19
               try clear c19b0
               try clear c20
               try clear c20b0
               try clear c23
               try clear c25
               try clear c25b0
               try clear c26
               try clear c26b0
               try clear c27
               try clear c27b0
               try clear c31
               try clear c31b0
               try clear c33
               try clear c33b0
               try clear c35
               try clear c35b0
               try clear c36
               try clear c36b0
               try clear c37
               try clear c37b0
               try clear c37b1
               try clear hcz30_0
               try clear hcz30_1
               try clear hcz32_0
               try clear hcz32_1
               try clear hcz38_0
               try clear hcz38_1
               try clear hcz39_0
               try clear hcz39_1
               try clear hcz40_0
               try clear hcz40_1
               try clear hfz30_0
               try clear hfz30_1
               try clear hfz32_0
               try clear hfz32_1
               try clear hfz38_0
               try clear hfz38_1
               try clear hfz39_0
               try clear hfz39_1
               try clear hfz40_0
               try clear hfz40_1
               try clear hx10_0
               try clear hx10_1
               try clear hx11_0
               try clear hx11_1
               try clear hx2_0
               try clear hx6_0
               try clear hx6_1
               try clear hx7_0
               try clear hx7_1
               try clear hx8_0
               try clear hx8_1
               try clear p10
               try clear p11
               try clear p2
               try clear p6
               try clear p7
               try clear p8
               try clear q10
               try clear q11
               try clear q2
               try clear q6
               try clear q7
               try clear q8
               obtain ⟨kq, x86_27, rfl, HA, HJ27, HO_5, HO_50, BK9, HB⟩ := hcut
               cases kq with
               | zero => exact absurd HA.out (by simp [q7z.j3])
               | succ kj27 =>
                have H := HA.out
                clear HA
                simp only [q7z.j3] at H
                by_cases c41 : x86_27 = true
                ·
                 subst c41
                 have H1 : (some false) = some r := by rw [if_pos rfl] at H; exact H
                 clear H
                 have H := H1
                 clear H1
                 obtain rfl := Option.some.inj H
                 go_wp2
                 repeat (go_quiet (fail); try go_wp2)
                 go_ret
                 exact ⟨by first | rfl | (simp [errW_none, errW_some] <;> rfl) | (simp [*, errW_none, errW_some] <;> rfl), by repeat (first | (with_reducible first | exact HB.out | apply below_alloc | apply pw_below_drewN | apply below_drew1 | refine below_set ?_ GE9.out) | exact HB.out)⟩
                ·
                 replace c41 := Bool.eq_false_iff.mpr c41
                 subst c41
                 have H1 : (q7z.l2 kj27 l0 t3 x52_3 (x52_3 == 0) t3 (t3.length : Int) x52_3 l0 (l0.length : Int) 0 ((rd_T33 t3 x52_3).f0) ((rd_T33 t3 x52_3).f1)) = some r := by rw [if_neg (show ¬ (false = true) by decide)] at H; exact H
                 clear H
                 have H := H1
                 clear H1
                 have H' := Aside0.mk H
                 clear H
                 go_wp2
                 repeat (go_quiet (fail); try go_wp2)
                 go_loopg [8, 91] kj27 (fun kq v8 v91 w' => ∃ (x8_5 : Bool) (x91_5 : Int), v8 = .bool x8_5 ∧ v91 = .int .i64 x91_5 ∧ Aside0 (q7z.l2 kq l0 t3 x52_3 x8_5 t3 (t3.length : Int) x52_3 l0 (l0.length : Int) x91_5 ((rd_T33 t3 x52_3).f0) ((rd_T33 t3 x52_3).f1) = some r) ∧ Aside0 (kq ≤ kj27) ∧ Aside0 (Kd.R k33 33 w' w.heap.size (fun k_ => k_ ≠ gb9) (.slice (some ad8) t3.length co24) t3) ∧ Aside0 (Kd.R k33 33 w' w.heap.size (fun k_ => k_ ≠ gb9) (.slice (some ad8) t3.length co24) t3) ∧ Aside0 (w'.heap[gb9]? = some (.cells #[.int .u32 ((rd_T33 t3 x52_3).f0), .int .u32 ((rd_T33 t3 x52_3).f1)] 33 (0, 0))) ∧ Aside0 (Below w.heap.size w w'))
                 case atStart => exact ⟨((x52_3 == 0)), (0), (by first | rfl | (simp; done) | (simp [*]; done)), (by first | rfl | (simp; done) | (simp [*]; done)), H', ⟨Nat.le_refl _⟩, ⟨by (with_reducible repeat (first | apply Kd.R_alloc | apply Kd.R_drewN | apply Kd.R_drew)); exact HO_5.out⟩, ⟨by (with_reducible repeat (first | apply Kd.R_alloc | apply Kd.R_drewN | apply Kd.R_drew)); exact HO_50.out⟩, ⟨by (with_reducible repeat (first | refine blk_drewN ?_ _ | refine blk_drew ?_ | refine blk_alloc ?_ _)); exact BK9.out⟩, ⟨by repeat (first | (with_reducible first | exact HB.out | apply below_alloc | apply pw_below_drewN | apply below_drew1 | refine below_set ?_ GE9.out) | exact HB.out)⟩⟩
                 case round =>
                  clear H'
                  try clear c1
                  try clear p1
                  try clear q1
                  try clear hx1
                  try clear c2
                  try clear p2
                  try clear q2
                  try clear hx2
                  try clear c3
                  try clear c4
                  try clear c4b0
                  try clear c4b1
                  try clear c5
                  try clear p6
                  try clear q6
                  try clear hx6
                  try clear qi6
                  try clear c7
                  try clear c7b0
                  try clear p7
                  try clear q7
                  try clear hx7
                  try clear c8
                  try clear c8b0
                  try clear p8
                  try clear q8
                  try clear hx8
                  try clear c9
                  try clear c9b0
                  try clear c10
                  try clear c10b0
                  try clear c10b1
                  try clear p10
                  try clear q10
                  try clear hx10
                  try clear p11
                  try clear q11
                  try clear hx11
                  try clear c14
                  try clear c14b0
                  try clear c14b1
                  try clear c14b2
                  try clear c16
                  try clear c16b0
                  try clear c16b1
                  try clear c17
                  try clear c17b0
                  try clear c17b1
                  try clear c19
                  try clear c19b0
                  try clear c20
                  try clear c20b0
                  try clear c23
                  try clear c25
                  try clear c25b0
                  try clear c26
                  try clear c26b0
                  try clear c27
                  try clear c27b0
                  try clear c31
                  try clear c31b0
                  try clear c33
                  try clear c33b0
                  try clear c35
                  try clear c35b0
                  try clear c36
                  try clear c36b0
                  try clear c37
                  try clear c37b0
                  try clear c37b1
                  try clear c41
                  try clear hcz30_0
                  try clear hcz30_1
                  try clear hcz32_0
                  try clear hcz32_1
                  try clear hcz38_0
                  try clear hcz38_1
                  try clear hcz39_0
                  try clear hcz39_1
                  try clear hcz40_0
                  try clear hcz40_1
                  try clear hfz30_0
                  try clear hfz30_1
                  try clear hfz32_0
                  try clear hfz32_1
                  try clear hfz38_0
                  try clear hfz38_1
                  try clear hfz39_0
                  try clear hfz39_1
                  try clear hfz40_0
                  try clear hfz40_1
                  try clear hx10_0
                  try clear hx10_1
                  try clear hx11_0
                  try clear hx11_1
                  try clear hx2_0
                  try clear hx6_0
                  try clear hx6_1
                  try clear hx7_0
                  try clear hx7_1
                  try clear hx8_0
                  try clear hx8_1
                  try clear p1
                  try clear p10
                  try clear p11
                  try clear p2
                  try clear p6
                  try clear p7
                  try clear p8
                  try clear q1
                  try clear q10
                  try clear q11
                  try clear q2
                  try clear q6
                  try clear q7
                  try clear q8
                  obtain ⟨x8_5, x91_5, rfl, rfl, HA, HK5, HO_5, HO_50, BK9, HB⟩ := hrel
                  cases gk with
                  | zero => exact absurd HA.out (by simp [q7z.l2])
                  | succ k5 =>
                   have H := HA.out
                   clear HA
                   simp only [q7z.l2] at H
                   by_cases c42 : x91_5 < (l0.length : Int)
                   ·
                    rw [if_pos c42] at H
                    have c42b0 : decide (x91_5 < (l0.length : Int)) = true := decide_eq_true c42
                    clear c42
                    by_cases c43 : 0 ≤ x91_5
                    ·
                     rw [if_pos c43] at H
                     have c43b0 : decide (0 ≤ x91_5) = true := decide_eq_true c43
                     clear c43
                     by_cases c44 : x91_5 < (l0.length : Int)
                     ·
                      rw [if_pos c44] at H
                      have c44b0 : decide (x91_5 < (l0.length : Int)) = true := decide_eq_true c44
                      clear c44
                      by_cases c45 : 0 ≤ x52_3
                      ·
                       rw [if_pos c45] at H
                       have c45b0 := eq_true c45
                       have c45b1 : decide (0 ≤ x52_3) = true := decide_eq_true c45
                       clear c45
                       by_cases c46 : x52_3 ≤ (wrap64 (x52_3 + 1))
                       ·
                        rw [if_pos c46] at H
                        have c46b0 := eq_true c46
                        have c46b1 : decide (x52_3 ≤ (wrap64 (x52_3 + 1))) = true := decide_eq_true c46
                        by_cases c47 : (wrap64 (x52_3 + 1)) ≤ (t3.length : Int)
                        ·
                         rw [if_pos c47] at H
                         have c47b0 := eq_true c47
                         have c47b1 : decide ((wrap64 (x52_3 + 1)) ≤ (t3.length : Int)) = true := decide_eq_true c47
                         obtain ⟨y13, hy13⟩ : ∃ y_ : List (S33), y_ = ((t3.take ((wrap64 (x52_3 + 1)) : Int).toNat).drop (x52_3 : Int).toNat) := ⟨_, rfl⟩
                         replace H : ((q4z.f k5 (rd_L2 l0 x91_5) y13).bind fun t17 => ((span_In.f (rd_L2 l0 x91_5) ((rd_T33 t3 x52_3).f0)).bind fun t20 => (if t20 = true then ((q1z.f k5 t17 ((t3.take ((wrap64 (x52_3 + 1)) : Int).toNat).drop (x52_3 : Int).toNat)).bind fun t25 => (if t25 = true then (if x8_5 = true then (q7z.l2 k5 l0 t3 x52_3 true t3 (t3.length : Int) x52_3 l0 (l0.length : Int) (wrap64 (x91_5 + 1)) ((rd_T33 t3 x52_3).f0) ((rd_T33 t3 x52_3).f1)) else (if 0 ≤ (wrap64 (x52_3 - 1)) then (if (wrap64 (x52_3 - 1)) < (t3.length : Int) then ((span_In.f (rd_L2 l0 x91_5) ((rd_T33 t3 (wrap64 (x52_3 - 1))).f0)).bind fun t27 => (q7z.l2 k5 l0 t3 x52_3 (t20 != t27) t3 (t3.length : Int) x52_3 l0 (l0.length : Int) (wrap64 (x91_5 + 1)) ((rd_T33 t3 x52_3).f0) ((rd_T33 t3 x52_3).f1))) else (none)) else (none))) else (some false))) else (if (t17.length : Int) = 0 then (if x8_5 = true then (q7z.l2 k5 l0 t3 x52_3 true t3 (t3.length : Int) x52_3 l0 (l0.length : Int) (wrap64 (x91_5 + 1)) ((rd_T33 t3 x52_3).f0) ((rd_T33 t3 x52_3).f1)) else (if 0 ≤ (wrap64 (x52_3 - 1)) then (if (wrap64 (x52_3 - 1)) < (t3.length : Int) then ((span_In.f (rd_L2 l0 x91_5) ((rd_T33 t3 (wrap64 (x52_3 - 1))).f0)).bind fun t29 => (q7z.l2 k5 l0 t3 x52_3 (t20 != t29) t3 (t3.length : Int) x52_3 l0 (l0.length : Int) (wrap64 (x91_5 + 1)) ((rd_T33 t3 x52_3).f0) ((rd_T33 t3 x52_3).f1))) else (none)) else (none))) else (some false))))) = some r := by first | (rw [hy13]; with_reducible exact H) | (have H2_ := (Option.bind_some _ _).symm.trans H; rw [hy13]; with_reducible exact H2_) | (have H2_ := (Option.bind_some _ _).symm.trans H; with_reducible exact H2_) | with_reducible exact H | (rw [hy13]; exact H) | exact H
                         have Ny13 := Aside0.mk hy13
                         clear hy13
                         replace H := Option.bind_eq_some_iff.mp H
                         obtain ⟨t17, A480, H⟩ := H
                         replace H : ((span_In.f (rd_L2 l0 x91_5) ((rd_T33 t3 x52_3).f0)).bind fun t20 => (if t20 = true then ((q1z.f k5 t17 ((t3.take ((wrap64 (x52_3 + 1)) : Int).toNat).drop (x52_3 : Int).toNat)).bind fun t25 => (if t25 = true then (if x8_5 = true then (q7z.l2 k5 l0 t3 x52_3 true t3 (t3.length : Int) x52_3 l0 (l0.length : Int) (wrap64 (x91_5 + 1)) ((rd_T33 t3 x52_3).f0) ((rd_T33 t3 x52_3).f1)) else (if 0 ≤ (wrap64 (x52_3 - 1)) then (if (wrap64 (x52_3 - 1)) < (t3.length : Int) then ((span_In.f (rd_L2 l0 x91_5) ((rd_T33 t3 (wrap64 (x52_3 - 1))).f0)).bind fun t27 => (q7z.l2 k5 l0 t3 x52_3 (t20 != t27) t3 (t3.length : Int) x52_3 l0 (l0.length : Int) (wrap64 (x91_5 + 1)) ((rd_T33 t3 x52_3).f0) ((rd_T33 t3 x52_3).f1))) else (none)) else (none))) else (some false))) else (if (t17.length : Int) = 0 then (if x8_5 = true then (q7z.l2 k5 l0 t3 x52_3 true t3 (t3.length : Int) x52_3 l0 (l0.length : Int) (wrap64 (x91_5 + 1)) ((rd_T33 t3 x52_3).f0) ((rd_T33 t3 x52_3).f1)) else (if 0 ≤ (wrap64 (x52_3 - 1)) then (if (wrap64 (x52_3 - 1)) < (t3.length : Int) then ((span_In.f (rd_L2 l0 x91_5) ((rd_T33 t3 (wrap64 (x52_3 - 1))).f0)).bind fun t29 => (q7z.l2 k5 l0 t3 x52_3 (t20 != t29) t3 (t3.length : Int) x52_3 l0 (l0.length : Int) (wrap64 (x91_5 + 1)) ((rd_T33 t3 x52_3).f0) ((rd_T33 t3 x52_3).f1))) else (none)) else (none))) else (some false)))) = some r := H
                         have A48 := Aside0.mk A480
                         clear A480
                         replace H := Option.bind_eq_some_iff.mp H
                         obtain ⟨t20, A490, H⟩ := H
                         replace H : (if t20 = true then ((q1z.f k5 t17 ((t3.take ((wrap64 (x52_3 + 1)) : Int).toNat).drop (x52_3 : Int).toNat)).bind fun t25 => (if t25 = true then (if x8_5 = true then (q7z.l2 k5 l0 t3 x52_3 true t3 (t3.length : Int) x52_3 l0 (l0.length : Int) (wrap64 (x91_5 + 1)) ((rd_T33 t3 x52_3).f0) ((rd_T33 t3 x52_3).f1)) else (if 0 ≤ (wrap64 (x52_3 - 1)) then (if (wrap64 (x52_3 - 1)) < (t3.length : Int) then ((span_In.f (rd_L2 l0 x91_5) ((rd_T33 t3 (wrap64 (x52_3 - 1))).f0)).bind fun t27 => (q7z.l2 k5 l0 t3 x52_3 (t20 != t27) t3 (t3.length : Int) x52_3 l0 (l0.length : Int) (wrap64 (x91_5 + 1)) ((rd_T33 t3 x52_3).f0) ((rd_T33 t3 x52_3).f1))) else (none)) else (none))) else (some false))) else (if (t17.length : Int) = 0 then (if x8_5 = true then (q7z.l2 k5 l0 t3 x52_3 true t3 (t3.length : Int) x52_3 l0 (l0.length : Int) (wrap64 (x91_5 + 1)) ((rd_T33 t3 x52_3).f0) ((rd_T33 t3 x52_3).f1)) else (if 0 ≤ (wrap64 (x52_3 - 1)) then (if (wrap64 (x52_3 - 1)) < (t3.length : Int) then ((span_In.f (rd_L2 l0 x91_5) ((rd_T33 t3 (wrap64 (x52_3 - 1))).f0)).bind fun t29 => (q7z.l2 k5 l0 t3 x52_3 (t20 != t29) t3 (t3.length : Int) x52_3 l0 (l0.length : Int) (wrap64 (x91_5 + 1)) ((rd_T33 t3 x52_3).f0) ((rd_T33 t3 x52_3).f1))) else (none)) else (none))) else (some false))) = some r := H
                         have A49 := Aside0.mk A490
                         clear A490
                         by_cases c50 : t20 = true
                         ·
                          subst c50
                          have H1 : ((q1z.f k5 t17 ((t3.take ((wrap64 (x52_3 + 1)) : Int).toNat).drop (x52_3 : Int).toNat)).bind fun t25 => (if t25 = true then (if x8_5 = true then (q7z.l2 k5 l0 t3 x52_3 true t3 (t3.length : Int) x52_3 l0 (l0.length : Int) (wrap64 (x91_5 + 1)) ((rd_T33 t3 x52_3).f0) ((rd_T33 t3 x52_3).f1)) else (if 0 ≤ (wrap64 (x52_3 - 1)) then (if (wrap64 (x52_3 - 1)) < (t3.length : Int) then ((span_In.f (rd_L2 l0 x91_5) ((rd_T33 t3 (wrap64 (x52_3 - 1))).f0)).bind fun t27 => (q7z.l2 k5 l0 t3 x52_3 (true != t27) t3 (t3.length : Int) x52_3 l0 (l0.length : Int) (wrap64 (x91_5 + 1)) ((rd_T33 t3 x52_3).f0) ((rd_T33 t3 x52_3).f1))) else (none)) else (none))) else (some false))) = some r := by rw [if_pos rfl] at H; exact H
                          clear H
                          have H := H1
                          clear H1
                          have c51b0 := eq_true (of_decide_eq_true (by first | (with_reducible assumption) | assumption) : 0 ≤ x52_3)
                          have c52b0 := eq_true (of_decide_eq_true (by first | (with_reducible assumption) | assumption) : x52_3 ≤ (wrap64 (x52_3 + 1)))
                          have c53b0 := eq_true (of_decide_eq_true (by first | (with_reducible assumption) | assumption) : (wrap64 (x52_3 + 1)) ≤ (t3.length : Int))
                          obtain ⟨y21, hy21⟩ : ∃ y_ : List (S33), y_ = ((t3.take ((wrap64 (x52_3 + 1)) : Int).toNat).drop (x52_3 : Int).toNat) := ⟨_, rfl⟩
                          replace H : ((q1z.f k5 t17 y21).bind fun t25 => (if t25 = true then (if x8_5 = true then (q7z.l2 k5 l0 t3 x52_3 true t3 (t3.length : Int) x52_3 l0 (l0.length : Int) (wrap64 (x91_5 + 1)) ((rd_T33 t3 x52_3).f0) ((rd_T33 t3 x52_3).f1)) else (if 0 ≤ (wrap64 (x52_3 - 1)) then (if (wrap64 (x52_3 - 1)) < (t3.length : Int) then ((span_In.f (rd_L2 l0 x91_5) ((rd_T33 t3 (wrap64 (x52_3 - 1))).f0)).bind fun t27 => (q7z.l2 k5 l0 t3 x52_3 (true != t27) t3 (t3.length : Int) x52_3 l0 (l0.length : Int) (wrap64 (x91_5 + 1)) ((rd_T33 t3 x52_3).f0) ((rd_T33 t3 x52_3).f1))) else (none)) else (none))) else (some false))) = some r := by first | (rw [hy21]; with_reducible exact H) | (have H2_ := (Option.bind_some _ _).symm.trans H; rw [hy21]; with_reducible exact H2_) | (have H2_ := (Option.bind_some _ _).symm.trans H; with_reducible exact H2_) | with_reducible exact H | (rw [hy21]; exact H) | exact H
                          have Ny21 := Aside0.mk hy21
                          clear hy21
                          replace H := Option.bind_eq_some_iff.mp H
                          obtain ⟨t25, A540, H⟩ := H
                          replace H : (if t25 = true then (if x8_5 = true then (q7z.l2 k5 l0 t3 x52_3 true t3 (t3.length : Int) x52_3 l0 (l0.length : Int) (wrap64 (x91_5 + 1)) ((rd_T33 t3 x52_3).f0) ((rd_T33 t3 x52_3).f1)) else (if 0 ≤ (wrap64 (x52_3 - 1)) then (if (wrap64 (x52_3 - 1)) < (t3.length : Int) then ((span_In.f (rd_L2 l0 x91_5) ((rd_T33 t3 (wrap64 (x52_3 - 1))).f0)).bind fun t27 => (q7z.l2 k5 l0 t3 x52_3 (true != t27) t3 (t3.length : Int) x52_3 l0 (l0.length : Int) (wrap64 (x91_5 + 1)) ((rd_T33 t3 x52_3).f0) ((rd_T33 t3 x52_3).f1))) else (none)) else (none))) else (some false)) = some r := H
                          have A54 := Aside0.mk A540
                          clear A540
                          by_cases c55 : t25 = true
                          ·
                           subst c55
                           have H1 : (if x8_5 = true then (q7z.l2 k5 l0 t3 x52_3 true t3 (t3.length : Int) x52_3 l0 (l0.length : Int) (wrap64 (x91_5 + 1)) ((rd_T33 t3 x52_3).f0) ((rd_T33 t3 x52_3).f1)) else (if 0 ≤ (wrap64 (x52_3 - 1)) then (if (wrap64 (x52_3 - 1)) < (t3.length : Int) then ((span_In.f (rd_L2 l0 x91_5) ((rd_T33 t3 (wrap64 (x52_3 - 1))).f0)).bind fun t27 => (q7z.l2 k5 l0 t3 x52_3 (true != t27) t3 (t3.length : Int) x52_3 l0 (l0.length : Int) (wrap64 (x91_5 + 1)) ((rd_T33 t3 x52_3).f0) ((rd_T33 t3 x52_3).f1))) else (none)) else (none))) = some r := by rw [if_pos rfl] at H; exact H
                           clear H
                           have H := H1
                           clear H1
                           by_cases c56 : x8_5 = true
                           ·
                            subst c56
                            have H1 : (q7z.l2 k5 l0 t3 x52_3 true t3 (t3.length : Int) x52_3 l0 (l0.length : Int) (wrap64 (x91_5 + 1)) ((rd_T33 t3 x52_3).f0) ((rd_T33 t3 x52_3).f1)) = some r := by rw [if_pos rfl] at H; exact H
                            clear H
                            have H := H1
                            clear H1
                            have H' := Aside0.mk H
                            clear H
                            have p12 : 0 ≤ (x91_5 : Int) := of_decide_eq_true (by first | (with_reducible assumption) | assumption)
                            have q12 : x91_5 < (l0.length : Int) := of_decide_eq_true (by first | (with_reducible assumption) | assumption)
                            obtain ⟨ad12, A12_0, c12_0, e12, hx12_0, hl12_0, hi12_0⟩ := at_L2 HR0.out x91_5 p12 q12
                            cases e12
                            replace hx12_0 := (HB.out.cell (World.block_lt_of_cell? w _ hx12_0)).trans hx12_0
                            have HR12_0 := Aside0.mk hi12_0
                            have HC12_0 := Aside0.mk hl12_0
                            clear hi12_0 hl12_0
                            replace p12 := eq_true p12
                            replace q12 := eq_true q12
                            have q57 : ((wrap64 (x52_3 + 1)) : Int) ≤ ((t3.length : Int) : Int) := of_decide_eq_true (by first | (with_reducible assumption) | assumption)
                            obtain ⟨i057, hi057, _, hsz57, _⟩ := info_parts info33
                            have hroom57 : t3.length ≤ co24 := (Kd.R_reads' HO_5.out).2.1
                            have hC57 : Kd.C k33 _ (some ad8) t3.length t3 := (Kd.R_reads' HO_5.out).2.2
                            have ql57 : (x52_3 : Int) ≤ ((wrap64 (x52_3 + 1)) : Int) := of_decide_eq_true (by first | (with_reducible assumption) | assumption)
                            have q057 : (0 : Int) ≤ (x52_3 : Int) := of_decide_eq_true (by first | (with_reducible assumption) | assumption)
                            have hcut57 := cut_mid (P := Try.prog) 24 33 .i64 .i64 Try.underlying24 hi057 2 hsz57 (some ad8) t3.length co24 x52_3 (wrap64 (x52_3 + 1)) q057 ql57 q57 hroom57
                            have hr57 := Kd.C_mid (lo := (x52_3 : Int).toNat) (hi := ((wrap64 (x52_3 + 1)) : Int).toNat) (c := co24) hC57 (by omega) (by omega) hroom57
                            obtain ⟨A57, hA57⟩ : ∃ A1, A1 = (if co24 = (x52_3 : Int).toNat then (some ad8) else ((some ad8) : Option Addr).map (·.add ((x52_3 : Int).toNat * 2))) := ⟨_, rfl⟩
                            obtain ⟨c57, hc57⟩ : ∃ c1, c1 = co24 - (x52_3 : Int).toNat := ⟨_, rfl⟩
                            have hy57 : y13.length = ((wrap64 (x52_3 + 1)) : Int).toNat - (x52_3 : Int).toNat := (by rw [Ny13.out, List.length_drop, List.length_take] <;> omega)
                            rw [show ((t3).take ((wrap64 (x52_3 + 1)) : Int).toNat).drop (x52_3 : Int).toNat = y13 from Ny13.out.symm] at hr57
                            replace hr57 : Kd.C k33 _ A57 y13.length y13 := (by rw [hA57]; exact hr57)
                            rw [← hy57, ← hA57, ← hc57] at hcut57
                            have HR16 := Aside0.mk hr57
                            have HC16 := Aside0.mk (show y13.length ≤ c57 from by rw [hy57, hc57]; exact Nat.sub_le_sub_right (Nat.le_trans (by omega) hroom57) _)
                            clear hr57 hC57 hroom57 hi057 hsz57 hc57
                            have KY57 := Aside0.mk hy57
                            have KA57 := Aside0.mk hA57
                            clear hy57 hA57
                            have KL57 := Aside0.mk (show ((wrap64 (x52_3 + 1)) : Int).toNat ≤ t3.length from by omega)
                            have KM57 := Aside0.mk (show (x52_3 : Int).toNat ≤ ((wrap64 (x52_3 + 1)) : Int).toNat from by omega)
                            replace q57 := eq_true q57
                            go_wp2_with (first | (go_at_call 18; (with_reducible refine (q4z.calls k5 _ _ (rd_L2 l0 x91_5) _ _ y13 t17 _ ?side1 ?side2 ?side3 ?side4 A48.out).mono ?_); (case side1 => repeat (first | exact (Kd.C_below HR12_0.out HB.out) | (with_reducible refine Kd.C_alloc ?_ _) | (with_reducible refine Kd.C_drewN ?_ _) | (with_reducible refine Kd.C_drew ?_))); (case side2 => exact HC12_0.out); (case side3 => repeat (first | exact (by repeat (first | (with_reducible exact HR16.out) | (with_reducible refine Kd.C_alloc ?_ _) | (with_reducible refine Kd.C_drewN ?_ _) | (with_reducible refine Kd.C_drew ?_) | exact HR16.out)) | (with_reducible refine Kd.C_alloc ?_ _) | (with_reducible refine Kd.C_drewN ?_ _) | (with_reducible refine Kd.C_drew ?_))); (case side4 => exact HC16.out); rintro e w58 ⟨v18, rfl, ho0, hb⟩; have n0_ := Aside0.mk (Kd.R_elder' (by (with_reducible repeat (first | apply Kd.R_alloc | apply Kd.R_drewN | apply Kd.R_drew)); exact HO_5.out) (Kd.R_base ho0) hb); have n1_ := Aside0.mk (Kd.R_elder' (by (with_reducible repeat (first | apply Kd.R_alloc | apply Kd.R_drewN | apply Kd.R_drew)); exact HO_50.out) (Kd.R_base ho0) hb); have n2_ := Aside0.mk (Kd.R_lower (Kd.R_newB (Kd.R_new' (Kd.R_new' ho0 (Kd.R_lt (by (with_reducible repeat (first | apply Kd.R_alloc | apply Kd.R_drewN | apply Kd.R_drew)); exact HO_5.out))) (Kd.R_lt (by (with_reducible repeat (first | apply Kd.R_alloc | apply Kd.R_drewN | apply Kd.R_drew)); exact HO_50.out))) (g := gb9) (o := .cells #[.int .u32 ((rd_T33 t3 x52_3).f0), .int .u32 ((rd_T33 t3 x52_3).f1)] 33 (0, 0)) (by (with_reducible repeat (first | refine blk_drewN ?_ _ | refine blk_drew ?_ | refine blk_alloc ?_ _)); exact BK9.out)) (below_size (by repeat (first | (with_reducible first | exact HB.out | apply below_alloc | apply pw_below_drewN | apply below_drew1 | refine below_set ?_ GE9.out) | exact HB.out)))); have n3_ := Aside0.mk (blk_below (g := gb9) (o := .cells #[.int .u32 ((rd_T33 t3 x52_3).f0), .int .u32 ((rd_T33 t3 x52_3).f1)] 33 (0, 0)) (by (with_reducible repeat (first | refine blk_drewN ?_ _ | refine blk_drew ?_ | refine blk_alloc ?_ _)); exact BK9.out) hb); have n4_ := Aside0.mk (Kd.C_below (by repeat (first | (with_reducible exact HR16.out) | (with_reducible refine Kd.C_alloc ?_ _) | (with_reducible refine Kd.C_drewN ?_ _) | (with_reducible refine Kd.C_drew ?_) | exact HR16.out)) hb); have n5_ := Aside0.mk (below_step (by repeat (first | (with_reducible first | exact HB.out | apply below_alloc | apply pw_below_drewN | apply below_drew1 | refine below_set ?_ GE9.out) | exact HB.out)) hb); clear HO_5; clear HO_50; clear BK9; clear HR16; clear HB; have HO_5 := n0_; have HO_50 := n1_; have HO19 := n2_; have BK9 := n3_; have HR16 := n4_; have HB := n5_; clear n0_ n1_ n2_ n3_ n4_ n5_; (try clear hb); (try clear hb2); (try clear hk); (try clear hi); (try clear ho0); have hcz59_0 : w58.cell? ⟨gb9, 0, none⟩ = some (.int .u32 ((rd_T33 t3 x52_3).f0)) := (blk_cell BK9.out 0).trans rfl; have hcz59_1 : w58.cell? ⟨gb9, 1, none⟩ = some (.int .u32 ((rd_T33 t3 x52_3).f1)) := (blk_cell BK9.out 1).trans rfl; have hfz59_0 := blk_frozen BK9.out 0; have hfz59_1 := blk_frozen BK9.out 1) | (go_at_call 16; (with_reducible refine (span_In.calls _ _ (rd_L2 l0 x91_5) ((rd_T33 t3 x52_3).f0) true _ ?side1 ?side2 A49.out).mono ?_); (case side1 => repeat (first | exact (Kd.C_below HR12_0.out HB.out) | (with_reducible refine Kd.C_alloc ?_ _) | (with_reducible refine Kd.C_drewN ?_ _) | (with_reducible refine Kd.C_drew ?_))); (case side2 => exact HC12_0.out); rintro e w60 ⟨rfl, hb⟩; have n0_ := Aside0.mk (Kd.R_below (by (with_reducible repeat (first | apply Kd.R_alloc | apply Kd.R_drewN | apply Kd.R_drew)); exact HO_5.out) hb); have n1_ := Aside0.mk (Kd.R_below (by (with_reducible repeat (first | apply Kd.R_alloc | apply Kd.R_drewN | apply Kd.R_drew)); exact HO_50.out) hb); have n2_ := Aside0.mk (Kd.R_below (by (with_reducible repeat (first | apply Kd.R_alloc | apply Kd.R_drewN | apply Kd.R_drew)); exact HO19.out) hb); have n3_ := Aside0.mk (blk_below (g := gb9) (o := .cells #[.int .u32 ((rd_T33 t3 x52_3).f0), .int .u32 ((rd_T33 t3 x52_3).f1)] 33 (0, 0)) (by (with_reducible repeat (first | refine blk_drewN ?_ _ | refine blk_drew ?_ | refine blk_alloc ?_ _)); exact BK9.out) hb); have n4_ := Aside0.mk (Kd.C_below (by repeat (first | (with_reducible exact HR16.out) | (with_reducible refine Kd.C_alloc ?_ _) | (with_reducible refine Kd.C_drewN ?_ _) | (with_reducible refine Kd.C_drew ?_) | exact HR16.out)) hb); have n5_ := Aside0.mk (below_step (by repeat (first | (with_reducible first | exact HB.out | apply below_alloc | apply pw_below_drewN | apply below_drew1 | refine below_set ?_ GE9.out) | exact HB.out)) hb); clear HO_5; clear HO_50; clear HO19; clear BK9; clear HR16; clear HB; have HO_5 := n0_; have HO_50 := n1_; have HO19 := n2_; have BK9 := n3_; have HR16 := n4_; have HB := n5_; clear n0_ n1_ n2_ n3_ n4_ n5_; (try clear hb); (try clear hb2); (try clear hk); (try clear hi); have q61 : ((wrap64 (x52_3 + 1)) : Int) ≤ ((t3.length : Int) : Int) := of_decide_eq_true (by first | (with_reducible assumption) | assumption); obtain ⟨i061, hi061, _, hsz61, _⟩ := info_parts info33; have hroom61 : t3.length ≤ co24 := (Kd.R_reads' HO_5.out).2.1; have hC61 : Kd.C k33 _ (some ad8) t3.length t3 := (Kd.R_reads' HO_5.out).2.2; have ql61 : (x52_3 : Int) ≤ ((wrap64 (x52_3 + 1)) : Int) := of_decide_eq_true (by first | (with_reducible assumption) | assumption); have q061 : (0 : Int) ≤ (x52_3 : Int) := of_decide_eq_true (by first | (with_reducible assumption) | assumption); have hcut61 := cut_mid (P := Try.prog) 24 33 .i64 .i64 Try.underlying24 hi061 2 hsz61 (some ad8) t3.length co24 x52_3 (wrap64 (x52_3 + 1)) q061 ql61 q61 hroom61; have hr61 := Kd.C_mid (lo := (x52_3 : Int).toNat) (hi := ((wrap64 (x52_3 + 1)) : Int).toNat) (c := co24) hC61 (by omega) (by omega) hroom61; obtain ⟨A61, hA61⟩ : ∃ A1, A1 = (if co24 = (x52_3 : Int).toNat then (some ad8) else ((some ad8) : Option Addr).map (·.add ((x52_3 : Int).toNat * 2))) := ⟨_, rfl⟩; obtain ⟨c61, hc61⟩ : ∃ c1, c1 = co24 - (x52_3 : Int).toNat := ⟨_, rfl⟩; have hy61 : y21.length = ((wrap64 (x52_3 + 1)) : Int).toNat - (x52_3 : Int).toNat := (by rw [Ny21.out, List.length_drop, List.length_take] <;> omega); rw [show ((t3).take ((wrap64 (x52_3 + 1)) : Int).toNat).drop (x52_3 : Int).toNat = y21 from Ny21.out.symm] at hr61; replace hr61 : Kd.C k33 _ A61 y21.length y21 := (by rw [hA61]; exact hr61); rw [← hy61, ← hA61, ← hc61] at hcut61; have HR24 := Aside0.mk hr61; have HC24 := Aside0.mk (show y21.length ≤ c61 from by rw [hy61, hc61]; exact Nat.sub_le_sub_right (Nat.le_trans (by omega) hroom61) _); clear hr61 hC61 hroom61 hi061 hsz61 hc61; have KY61 := Aside0.mk hy61; have KA61 := Aside0.mk hA61; clear hy61 hA61; have KL61 := Aside0.mk (show ((wrap64 (x52_3 + 1)) : Int).toNat ≤ t3.length from by omega); have KM61 := Aside0.mk (show (x52_3 : Int).toNat ≤ ((wrap64 (x52_3 + 1)) : Int).toNat from by omega); replace q61 := eq_true q61; obtain ⟨Ao62, co62, eo62⟩ := Kd.R_slice HO19.out; subst eo62) | (go_at_call 10; (with_reducible refine (q1z.calls k5 _ _ t17 _ _ y13 true _ ?side1 ?side2 ?side3 ?side4 (show q1z.f k5 t17 y13 = some true from (congrArg (q1z.f k5 t17) (Ny13.out.trans Ny21.out.symm)).trans A54.out)).mono ?_); (case side1 => repeat (first | exact (Kd.R_reads' HO19.out).2.2 | (with_reducible refine Kd.C_alloc ?_ _) | (with_reducible refine Kd.C_drewN ?_ _) | (with_reducible refine Kd.C_drew ?_))); (case side2 => exact (Kd.R_reads' HO19.out).2.1); (case side3 => repeat (first | exact (by repeat (first | (with_reducible exact HR16.out) | (with_reducible refine Kd.C_alloc ?_ _) | (with_reducible refine Kd.C_drewN ?_ _) | (with_reducible refine Kd.C_drew ?_) | exact HR16.out)) | (with_reducible refine Kd.C_alloc ?_ _) | (with_reducible refine Kd.C_drewN ?_ _) | (with_reducible refine Kd.C_drew ?_))); (case side4 => exact HC16.out); rintro e w' ⟨rfl, ⟨nd, rfl⟩⟩; (try first | exact ⟨rfl, _, World.drewN_drewN _ _ _⟩ | exact ⟨rfl, _, Eq.trans (World.drewN_drewN _ _ _) (congrArg (World.drewN _) (Nat.add_assoc _ _ _))⟩)))
                            repeat (go_quiet (first | (go_at_call 18; (with_reducible refine (q4z.calls k5 _ _ (rd_L2 l0 x91_5) _ _ y13 t17 _ ?side1 ?side2 ?side3 ?side4 A48.out).mono ?_); (case side1 => repeat (first | exact (Kd.C_below HR12_0.out HB.out) | (with_reducible refine Kd.C_alloc ?_ _) | (with_reducible refine Kd.C_drewN ?_ _) | (with_reducible refine Kd.C_drew ?_))); (case side2 => exact HC12_0.out); (case side3 => repeat (first | exact (by repeat (first | (with_reducible exact HR16.out) | (with_reducible refine Kd.C_alloc ?_ _) | (with_reducible refine Kd.C_drewN ?_ _) | (with_reducible refine Kd.C_drew ?_) | exact HR16.out)) | (with_reducible refine Kd.C_alloc ?_ _) | (with_reducible refine Kd.C_drewN ?_ _) | (with_reducible refine Kd.C_drew ?_))); (case side4 => exact HC16.out); rintro e w58 ⟨v18, rfl, ho0, hb⟩; have n0_ := Aside0.mk (Kd.R_elder' (by (with_reducible repeat (first | apply Kd.R_alloc | apply Kd.R_drewN | apply Kd.R_drew)); exact HO_5.out) (Kd.R_base ho0) hb); have n1_ := Aside0.mk (Kd.R_elder' (by (with_reducible repeat (first | apply Kd.R_alloc | apply Kd.R_drewN | apply Kd.R_drew)); exact HO_50.out) (Kd.R_base ho0) hb); have n2_ := Aside0.mk (Kd.R_lower (Kd.R_newB (Kd.R_new' (Kd.R_new' ho0 (Kd.R_lt (by (with_reducible repeat (first | apply Kd.R_alloc | apply Kd.R_drewN | apply Kd.R_drew)); exact HO_5.out))) (Kd.R_lt (by (with_reducible repeat (first | apply Kd.R_alloc | apply Kd.R_drewN | apply Kd.R_drew)); exact HO_50.out))) (g := gb9) (o := .cells #[.int .u32 ((rd_T33 t3 x52_3).f0), .int .u32 ((rd_T33 t3 x52_3).f1)] 33 (0, 0)) (by (with_reducible repeat (first | refine blk_drewN ?_ _ | refine blk_drew ?_ | refine blk_alloc ?_ _)); exact BK9.out)) (below_size (by repeat (first | (with_reducible first | exact HB.out | apply below_alloc | apply pw_below_drewN | apply below_drew1 | refine below_set ?_ GE9.out) | exact HB.out)))); have n3_ := Aside0.mk (blk_below (g := gb9) (o := .cells #[.int .u32 ((rd_T33 t3 x52_3).f0), .int .u32 ((rd_T33 t3 x52_3).f1)] 33 (0, 0)) (by (with_reducible repeat (first | refine blk_drewN ?_ _ | refine blk_drew ?_ | refine blk_alloc ?_ _)); exact BK9.out) hb); have n4_ := Aside0.mk (Kd.C_below (by repeat (first | (with_reducible exact HR16.out) | (with_reducible refine Kd.C_alloc ?_ _) | (with_reducible refine Kd.C_drewN ?_ _) | (with_reducible refine Kd.C_drew ?_) | exact HR16.out)) hb); have n5_ := Aside0.mk (below_step (by repeat (first | (with_reducible first | exact HB.out | apply below_alloc | apply pw_below_drewN | apply below_drew1 | refine below_set ?_ GE9.out) | exact HB.out)) hb); clear HO_5; clear HO_50; clear BK9; clear HR16; clear HB; have HO_5 := n0_; have HO_50 := n1_; have HO19 := n2_; have BK9 := n3_; have HR16 := n4_; have HB := n5_; clear n0_ n1_ n2_ n3_ n4_ n5_; (try clear hb); (try clear hb2); (try clear hk); (try clear hi); (try clear ho0); have hcz59_0 : w58.cell? ⟨gb9, 0, none⟩ = some (.int .u32 ((rd_T33 t3 x52_3).f0)) := (blk_cell BK9.out 0).trans rfl; have hcz59_1 : w58.cell? ⟨gb9, 1, none⟩ = some (.int .u32 ((rd_T33 t3 x52_3).f1)) := (blk_cell BK9.out 1).trans rfl; have hfz59_0 := blk_frozen BK9.out 0; have hfz59_1 := blk_frozen BK9.out 1) | (go_at_call 16; (with_reducible refine (span_In.calls _ _ (rd_L2 l0 x91_5) ((rd_T33 t3 x52_3).f0) true _ ?side1 ?side2 A49.out).mono ?_); (case side1 => repeat (first | exact (Kd.C_below HR12_0.out HB.out) | (with_reducible refine Kd.C_alloc ?_ _) | (with_reducible refine Kd.C_drewN ?_ _) | (with_reducible refine Kd.C_drew ?_))); (case side2 => exact HC12_0.out); rintro e w60 ⟨rfl, hb⟩; have n0_ := Aside0.mk (Kd.R_below (by (with_reducible repeat (first | apply Kd.R_alloc | apply Kd.R_drewN | apply Kd.R_drew)); exact HO_5.out) hb); have n1_ := Aside0.mk (Kd.R_below (by (with_reducible repeat (first | apply Kd.R_alloc | apply Kd.R_drewN | apply Kd.R_drew)); exact HO_50.out) hb); have n2_ := Aside0.mk (Kd.R_below (by (with_reducible repeat (first | apply Kd.R_alloc | apply Kd.R_drewN | apply Kd.R_drew)); exact HO19.out) hb); have n3_ := Aside0.mk (blk_below (g := gb9) (o := .cells #[.int .u32 ((rd_T33 t3 x52_3).f0), .int .u32 ((rd_T33 t3 x52_3).f1)] 33 (0, 0)) (by (with_reducible repeat (first | refine blk_drewN ?_ _ | refine blk_drew ?_ | refine blk_alloc ?_ _)); exact BK9.out) hb); have n4_ := Aside0.mk (Kd.C_below (by repeat (first | (with_reducible exact HR16.out) | (with_reducible refine Kd.C_alloc ?_ _) | (with_reducible refine Kd.C_drewN ?_ _) | (with_reducible refine Kd.C_drew ?_) | exact HR16.out)) hb); have n5_ := Aside0.mk (below_step (by repeat (first | (with_reducible first | exact HB.out | apply below_alloc | apply pw_below_drewN | apply below_drew1 | refine below_set ?_ GE9.out) | exact HB.out)) hb); clear HO_5; clear HO_50; clear HO19; clear BK9; clear HR16; clear HB; have HO_5 := n0_; have HO_50 := n1_; have HO19 := n2_; have BK9 := n3_; have HR16 := n4_; have HB := n5_; clear n0_ n1_ n2_ n3_ n4_ n5_; (try clear hb); (try clear hb2); (try clear hk); (try clear hi); have q61 : ((wrap64 (x52_3 + 1)) : Int) ≤ ((t3.length : Int) : Int) := of_decide_eq_true (by first | (with_reducible assumption) | assumption); obtain ⟨i061, hi061, _, hsz61, _⟩ := info_parts info33; have hroom61 : t3.length ≤ co24 := (Kd.R_reads' HO_5.out).2.1; have hC61 : Kd.C k33 _ (some ad8) t3.length t3 := (Kd.R_reads' HO_5.out).2.2; have ql61 : (x52_3 : Int) ≤ ((wrap64 (x52_3 + 1)) : Int) := of_decide_eq_true (by first | (with_reducible assumption) | assumption); have q061 : (0 : Int) ≤ (x52_3 : Int) := of_decide_eq_true (by first | (with_reducible assumption) | assumption); have hcut61 := cut_mid (P := Try.prog) 24 33 .i64 .i64 Try.underlying24 hi061 2 hsz61 (some ad8) t3.length co24 x52_3 (wrap64 (x52_3 + 1)) q061 ql61 q61 hroom61; have hr61 := Kd.C_mid (lo := (x52_3 : Int).toNat) (hi := ((wrap64 (x52_3 + 1)) : Int).toNat) (c := co24) hC61 (by omega) (by omega) hroom61; obtain ⟨A61, hA61⟩ : ∃ A1, A1 = (if co24 = (x52_3 : Int).toNat then (some ad8) else ((some ad8) : Option Addr).map (·.add ((x52_3 : Int).toNat * 2))) := ⟨_, rfl⟩; obtain ⟨c61, hc61⟩ : ∃ c1, c1 = co24 - (x52_3 : Int).toNat := ⟨_, rfl⟩; have hy61 : y21.length = ((wrap64 (x52_3 + 1)) : Int).toNat - (x52_3 : Int).toNat := (by rw [Ny21.out, List.length_drop, List.length_take] <;> omega); rw [show ((t3).take ((wrap64 (x52_3 + 1)) : Int).toNat).drop (x52_3 : Int).toNat = y21 from Ny21.out.symm] at hr61; replace hr61 : Kd.C k33 _ A61 y21.length y21 := (by rw [hA61]; exact hr61); rw [← hy61, ← hA61, ← hc61] at hcut61; have HR24 := Aside0.mk hr61; have HC24 := Aside0.mk (show y21.length ≤ c61 from by rw [hy61, hc61]; exact Nat.sub_le_sub_right (Nat.le_trans (by omega) hroom61) _); clear hr61 hC61 hroom61 hi061 hsz61 hc61; have KY61 := Aside0.mk hy61; have KA61 := Aside0.mk hA61; clear hy61 hA61; have KL61 := Aside0.mk (show ((wrap64 (x52_3 + 1)) : Int).toNat ≤ t3.length from by omega); have KM61 := Aside0.mk (show (x52_3 : Int).toNat ≤ ((wrap64 (x52_3 + 1)) : Int).toNat from by omega); replace q61 := eq_true q61; obtain ⟨Ao62, co62, eo62⟩ := Kd.R_slice HO19.out; subst eo62) | (go_at_call 10; (with_reducible refine (q1z.calls k5 _ _ t17 _ _ y13 true _ ?side1 ?side2 ?side3 ?side4 (show q1z.f k5 t17 y13 = some true from (congrArg (q1z.f k5 t17) (Ny13.out.trans Ny21.out.symm)).trans A54.out)).mono ?_); (case side1 => repeat (first | exact (Kd.R_reads' HO19.out).2.2 | (with_reducible refine Kd.C_alloc ?_ _) | (with_reducible refine Kd.C_drewN ?_ _) | (with_reducible refine Kd.C_drew ?_))); (case side2 => exact (Kd.R_reads' HO19.out).2.1); (case side3 => repeat (first | exact (by repeat (first | (with_reducible exact HR16.out) | (with_reducible refine Kd.C_alloc ?_ _) | (with_reducible refine Kd.C_drewN ?_ _) | (with_reducible refine Kd.C_drew ?_) | exact HR16.out)) | (with_reducible refine Kd.C_alloc ?_ _) | (with_reducible refine Kd.C_drewN ?_ _) | (with_reducible refine Kd.C_drew ?_))); (case side4 => exact HC16.out); rintro e w' ⟨rfl, ⟨nd, rfl⟩⟩; (try first | exact ⟨rfl, _, World.drewN_drewN _ _ _⟩ | exact ⟨rfl, _, Eq.trans (World.drewN_drewN _ _ _) (congrArg (World.drewN _) (Nat.add_assoc _ _ _))⟩))); try go_wp2_with (first | (go_at_call 18; (with_reducible refine (q4z.calls k5 _ _ (rd_L2 l0 x91_5) _ _ y13 t17 _ ?side1 ?side2 ?side3 ?side4 A48.out).mono ?_); (case side1 => repeat (first | exact (Kd.C_below HR12_0.out HB.out) | (with_reducible refine Kd.C_alloc ?_ _) | (with_reducible refine Kd.C_drewN ?_ _) | (with_reducible refine Kd.C_drew ?_))); (case side2 => exact HC12_0.out); (case side3 => repeat (first | exact (by repeat (first | (with_reducible exact HR16.out) | (with_reducible refine Kd.C_alloc ?_ _) | (with_reducible refine Kd.C_drewN ?_ _) | (with_reducible refine Kd.C_drew ?_) | exact HR16.out)) | (with_reducible refine Kd.C_alloc ?_ _) | (with_reducible refine Kd.C_drewN ?_ _) | (with_reducible refine Kd.C_drew ?_))); (case side4 => exact HC16.out); rintro e w58 ⟨v18, rfl, ho0, hb⟩; have n0_ := Aside0.mk (Kd.R_elder' (by (with_reducible repeat (first | apply Kd.R_alloc | apply Kd.R_drewN | apply Kd.R_drew)); exact HO_5.out) (Kd.R_base ho0) hb); have n1_ := Aside0.mk (Kd.R_elder' (by (with_reducible repeat (first | apply Kd.R_alloc | apply Kd.R_drewN | apply Kd.R_drew)); exact HO_50.out) (Kd.R_base ho0) hb); have n2_ := Aside0.mk (Kd.R_lower (Kd.R_newB (Kd.R_new' (Kd.R_new' ho0 (Kd.R_lt (by (with_reducible repeat (first | apply Kd.R_alloc | apply Kd.R_drewN | apply Kd.R_drew)); exact HO_5.out))) (Kd.R_lt (by (with_reducible repeat (first | apply Kd.R_alloc | apply Kd.R_drewN | apply Kd.R_drew)); exact HO_50.out))) (g := gb9) (o := .cells #[.int .u32 ((rd_T33 t3 x52_3).f0), .int .u32 ((rd_T33 t3 x52_3).f1)] 33 (0, 0)) (by (with_reducible repeat (first | refine blk_drewN ?_ _ | refine blk_drew ?_ | refine blk_alloc ?_ _)); exact BK9.out)) (below_size (by repeat (first | (with_reducible first | exact HB.out | apply below_alloc | apply pw_below_drewN | apply below_drew1 | refine below_set ?_ GE9.out) | exact HB.out)))); have n3_ := Aside0.mk (blk_below (g := gb9) (o := .cells #[.int .u32 ((rd_T33 t3 x52_3).f0), .int .u32 ((rd_T33 t3 x52_3).f1)] 33 (0, 0)) (by (with_reducible repeat (first | refine blk_drewN ?_ _ | refine blk_drew ?_ | refine blk_alloc ?_ _)); exact BK9.out) hb); have n4_ := Aside0.mk (Kd.C_below (by repeat (first | (with_reducible exact HR16.out) | (with_reducible refine Kd.C_alloc ?_ _) | (with_reducible refine Kd.C_drewN ?_ _) | (with_reducible refine Kd.C_drew ?_) | exact HR16.out)) hb); have n5_ := Aside0.mk (below_step (by repeat (first | (with_reducible first | exact HB.out | apply below_alloc | apply pw_below_drewN | apply below_drew1 | refine below_set ?_ GE9.out) | exact HB.out)) hb); clear HO_5; clear HO_50; clear BK9; clear HR16; clear HB; have HO_5 := n0_; have HO_50 := n1_; have HO19 := n2_; have BK9 := n3_; have HR16 := n4_; have HB := n5_; clear n0_ n1_ n2_ n3_ n4_ n5_; (try clear hb); (try clear hb2); (try clear hk); (try clear hi); (try clear ho0); have hcz59_0 : w58.cell? ⟨gb9, 0, none⟩ = some (.int .u32 ((rd_T33 t3 x52_3).f0)) := (blk_cell BK9.out 0).trans rfl; have hcz59_1 : w58.cell? ⟨gb9, 1, none⟩ = some (.int .u32 ((rd_T33 t3 x52_3).f1)) := (blk_cell BK9.out 1).trans rfl; have hfz59_0 := blk_frozen BK9.out 0; have hfz59_1 := blk_frozen BK9.out 1) | (go_at_call 16; (with_reducible refine (span_In.calls _ _ (rd_L2 l0 x91_5) ((rd_T33 t3 x52_3).f0) true _ ?side1 ?side2 A49.out).mono ?_); (case side1 => repeat (first | exact (Kd.C_below HR12_0.out HB.out) | (with_reducible refine Kd.C_alloc ?_ _) | (with_reducible refine Kd.C_drewN ?_ _) | (with_reducible refine Kd.C_drew ?_))); (case side2 => exact HC12_0.out); rintro e w60 ⟨rfl, hb⟩; have n0_ := Aside0.mk (Kd.R_below (by (with_reducible repeat (first | apply Kd.R_alloc | apply Kd.R_drewN | apply Kd.R_drew)); exact HO_5.out) hb); have n1_ := Aside0.mk (Kd.R_below (by (with_reducible repeat (first | apply Kd.R_alloc | apply Kd.R_drewN | apply Kd.R_drew)); exact HO_50.out) hb); have n2_ := Aside0.mk (Kd.R_below (by (with_reducible repeat (first | apply Kd.R_alloc | apply Kd.R_drewN | apply Kd.R_drew)); exact HO19.out) hb); have n3_ := Aside0.mk (blk_below (g := gb9) (o := .cells #[.int .u32 ((rd_T33 t3 x52_3).f0), .int .u32 ((rd_T33 t3 x52_3).f1)] 33 (0, 0)) (by (with_reducible repeat (first | refine blk_drewN ?_ _ | refine blk_drew ?_ | refine blk_alloc ?_ _)); exact BK9.out) hb); have n4_ := Aside0.mk (Kd.C_below (by repeat (first | (with_reducible exact HR16.out) | (with_reducible refine Kd.C_alloc ?_ _) | (with_reducible refine Kd.C_drewN ?_ _) | (with_reducible refine Kd.C_drew ?_) | exact HR16.out)) hb); have n5_ := Aside0.mk (below_step (by repeat (first | (with_reducible first | exact HB.out | apply below_alloc | apply pw_below_drewN | apply below_drew1 | refine below_set ?_ GE9.out) | exact HB.out)) hb); clear HO_5; clear HO_50; clear HO19; clear BK9; clear HR16; clear HB; have HO_5 := n0_; have HO_50 := n1_; have HO19 := n2_; have BK9 := n3_; have HR16 := n4_; have HB := n5_; clear n0_ n1_ n2_ n3_ n4_ n5_; (try clear hb); (try clear hb2); (try clear hk); (try clear hi); have q61 : ((wrap64 (x52_3 + 1)) : Int) ≤ ((t3.length : Int) : Int) := of_decide_eq_true (by first | (with_reducible assumption) | assumption); obtain ⟨i061, hi061, _, hsz61, _⟩ := info_parts info33; have hroom61 : t3.length ≤ co24 := (Kd.R_reads' HO_5.out).2.1; have hC61 : Kd.C k33 _ (some ad8) t3.length t3 := (Kd.R_reads' HO_5.out).2.2; have ql61 : (x52_3 : Int) ≤ ((wrap64 (x52_3 + 1)) : Int) := of_decide_eq_true (by first | (with_reducible assumption) | assumption); have q061 : (0 : Int) ≤ (x52_3 : Int) := of_decide_eq_true (by first | (with_reducible assumption) | assumption); have hcut61 := cut_mid (P := Try.prog) 24 33 .i64 .i64 Try.underlying24 hi061 2 hsz61 (some ad8) t3.length co24 x52_3 (wrap64 (x52_3 + 1)) q061 ql61 q61 hroom61; have hr61 := Kd.C_mid (lo := (x52_3 : Int).toNat) (hi := ((wrap64 (x52_3 + 1)) : Int).toNat) (c := co24) hC61 (by omega) (by omega) hroom61; obtain ⟨A61, hA61⟩ : ∃ A1, A1 = (if co24 = (x52_3 : Int).toNat then (some ad8) else ((some ad8) : Option Addr).map (·.add ((x52_3 : Int).toNat * 2))) := ⟨_, rfl⟩; obtain ⟨c61, hc61⟩ : ∃ c1, c1 = co24 - (x52_3 : Int).toNat := ⟨_, rfl⟩; have hy61 : y21.length = ((wrap64 (x52_3 + 1)) : Int).toNat - (x52_3 : Int).toNat := (by rw [Ny21.out, List.length_drop, List.length_take] <;> omega); rw [show ((t3).take ((wrap64 (x52_3 + 1)) : Int).toNat).drop (x52_3 : Int).toNat = y21 from Ny21.out.symm] at hr61; replace hr61 : Kd.C k33 _ A61 y21.length y21 := (by rw [hA61]; exact hr61); rw [← hy61, ← hA61, ← hc61] at hcut61; have HR24 := Aside0.mk hr61; have HC24 := Aside0.mk (show y21.length ≤ c61 from by rw [hy61, hc61]; exact Nat.sub_le_sub_right (Nat.le_trans (by omega) hroom61) _); clear hr61 hC61 hroom61 hi061 hsz61 hc61; have KY61 := Aside0.mk hy61; have KA61 := Aside0.mk hA61; clear hy61 hA61; have KL61 := Aside0.mk (show ((wrap64 (x52_3 + 1)) : Int).toNat ≤ t3.length from by omega); have KM61 := Aside0.mk (show (x52_3 : Int).toNat ≤ ((wrap64 (x52_3 + 1)) : Int).toNat from by omega); replace q61 := eq_true q61; obtain ⟨Ao62, co62, eo62⟩ := Kd.R_slice HO19.out; subst eo62) | (go_at_call 10; (with_reducible refine (q1z.calls k5 _ _ t17 _ _ y13 true _ ?side1 ?side2 ?side3 ?side4 (show q1z.f k5 t17 y13 = some true from (congrArg (q1z.f k5 t17) (Ny13.out.trans Ny21.out.symm)).trans A54.out)).mono ?_); (case side1 => repeat (first | exact (Kd.R_reads' HO19.out).2.2 | (with_reducible refine Kd.C_alloc ?_ _) | (with_reducible refine Kd.C_drewN ?_ _) | (with_reducible refine Kd.C_drew ?_))); (case side2 => exact (Kd.R_reads' HO19.out).2.1); (case side3 => repeat (first | exact (by repeat (first | (with_reducible exact HR16.out) | (with_reducible refine Kd.C_alloc ?_ _) | (with_reducible refine Kd.C_drewN ?_ _) | (with_reducible refine Kd.C_drew ?_) | exact HR16.out)) | (with_reducible refine Kd.C_alloc ?_ _) | (with_reducible refine Kd.C_drewN ?_ _) | (with_reducible refine Kd.C_drew ?_))); (case side4 => exact HC16.out); rintro e w' ⟨rfl, ⟨nd, rfl⟩⟩; (try first | exact ⟨rfl, _, World.drewN_drewN _ _ _⟩ | exact ⟨rfl, _, Eq.trans (World.drewN_drewN _ _ _) (congrArg (World.drewN _) (Nat.add_assoc _ _ _))⟩))))
                            go_roundg k5
                            case measure => have := HK1.out; have := HJ11.out; have := HK3.out; have := HJ27.out; have := HK5.out; omega
                            case rel => exact ⟨(true), (wrap64 (x91_5 + 1)), (by first | rfl | (simp; done) | (simp [*]; done)), (by first | rfl | (simp; done) | (simp [*]; done)), H', ⟨by have := HK1.out; have := HJ11.out; have := HK3.out; have := HJ27.out; have := HK5.out; omega⟩, ⟨by (with_reducible repeat (first | apply Kd.R_alloc | apply Kd.R_drewN | apply Kd.R_drew)); exact Kd.R_mono HO_5.out (fun _ hk => hk.1)⟩, ⟨by (with_reducible repeat (first | apply Kd.R_alloc | apply Kd.R_drewN | apply Kd.R_drew)); exact Kd.R_mono HO_50.out (fun _ hk => hk.1)⟩, ⟨by (with_reducible repeat (first | refine blk_drewN ?_ _ | refine blk_drew ?_ | refine blk_alloc ?_ _)); exact BK9.out⟩, ⟨by repeat (first | (with_reducible first | exact HB.out | apply below_alloc | apply pw_below_drewN | apply below_drew1 | refine below_set ?_ GE9.out) | exact HB.out)⟩⟩
                           ·
                            replace c56 := Bool.eq_false_iff.mpr c56
                            subst c56
                            have H1 : (if 0 ≤ (wrap64 (x52_3 - 1)) then (if (wrap64 (x52_3 - 1)) < (t3.length : Int) then ((span_In.f (rd_L2 l0 x91_5) ((rd_T33 t3 (wrap64 (x52_3 - 1))).f0)).bind fun t27 => (q7z.l2 k5 l0 t3 x52_3 (true != t27) t3 (t3.length : Int) x52_3 l0 (l0.length : Int) (wrap64 (x91_5 + 1)) ((rd_T33 t3 x52_3).f0) ((rd_T33 t3 x52_3).f1))) else (none)) else (none)) = some r := by rw [if_neg (show ¬ (false = true) by decide)] at H; exact H
                            clear H
                            have H := H1
                            clear H1
                            obtain ⟨ji63, hji63⟩ : ∃ j_ : Int, (wrap64 (x52_3 - 1)) = j_ := ⟨_, rfl⟩
                            replace H : (if 0 ≤ (ji63) then (if (ji63) < (t3.length : Int) then ((span_In.f (rd_L2 l0 x91_5) ((rd_T33 t3 (ji63)).f0)).bind fun t27 => (q7z.l2 k5 l0 t3 x52_3 (true != t27) t3 (t3.length : Int) x52_3 l0 (l0.length : Int) (wrap64 (x91_5 + 1)) ((rd_T33 t3 x52_3).f0) ((rd_T33 t3 x52_3).f1))) else (none)) else (none)) = some r := by first | (rw [hji63] at H; exact H) | (simp only [hji63] at H ⊢; exact H)
                            (try rw [hji63] at A48)
                            (try rw [hji63] at A49)
                            (try rw [hji63] at A54)
                            have hji63w : (IntKind.i64.wrap (x52_3 - 1)) = ji63 := (i64_w _).trans hji63
                            by_cases c64 : 0 ≤ (ji63)
                            ·
                             rw [if_pos c64] at H
                             have c64b0 : decide (0 ≤ (ji63)) = true := decide_eq_true c64
                             clear c64
                             by_cases c65 : (ji63) < (t3.length : Int)
                             ·
                              rw [if_pos c65] at H
                              have c65b0 : decide ((ji63) < (t3.length : Int)) = true := decide_eq_true c65
                              clear c65
                              replace H := Option.bind_eq_some_iff.mp H
                              obtain ⟨t27, A660, H⟩ := H
                              replace H : (q7z.l2 k5 l0 t3 x52_3 (true != t27) t3 (t3.length : Int) x52_3 l0 (l0.length : Int) (wrap64 (x91_5 + 1)) ((rd_T33 t3 x52_3).f0) ((rd_T33 t3 x52_3).f1)) = some r := H
                              have A66 := Aside0.mk A660
                              clear A660
                              have H' := Aside0.mk H
                              clear H
                              have p12 : 0 ≤ (x91_5 : Int) := of_decide_eq_true (by first | (with_reducible assumption) | assumption)
                              have q12 : x91_5 < (l0.length : Int) := of_decide_eq_true (by first | (with_reducible assumption) | assumption)
                              obtain ⟨ad12, A12_0, c12_0, e12, hx12_0, hl12_0, hi12_0⟩ := at_L2 HR0.out x91_5 p12 q12
                              cases e12
                              replace hx12_0 := (HB.out.cell (World.block_lt_of_cell? w _ hx12_0)).trans hx12_0
                              have HR12_0 := Aside0.mk hi12_0
                              have HC12_0 := Aside0.mk hl12_0
                              clear hi12_0 hl12_0
                              replace p12 := eq_true p12
                              replace q12 := eq_true q12
                              have q67 : ((wrap64 (x52_3 + 1)) : Int) ≤ ((t3.length : Int) : Int) := of_decide_eq_true (by first | (with_reducible assumption) | assumption)
                              obtain ⟨i067, hi067, _, hsz67, _⟩ := info_parts info33
                              have hroom67 : t3.length ≤ co24 := (Kd.R_reads' HO_5.out).2.1
                              have hC67 : Kd.C k33 _ (some ad8) t3.length t3 := (Kd.R_reads' HO_5.out).2.2
                              have ql67 : (x52_3 : Int) ≤ ((wrap64 (x52_3 + 1)) : Int) := of_decide_eq_true (by first | (with_reducible assumption) | assumption)
                              have q067 : (0 : Int) ≤ (x52_3 : Int) := of_decide_eq_true (by first | (with_reducible assumption) | assumption)
                              have hcut67 := cut_mid (P := Try.prog) 24 33 .i64 .i64 Try.underlying24 hi067 2 hsz67 (some ad8) t3.length co24 x52_3 (wrap64 (x52_3 + 1)) q067 ql67 q67 hroom67
                              have hr67 := Kd.C_mid (lo := (x52_3 : Int).toNat) (hi := ((wrap64 (x52_3 + 1)) : Int).toNat) (c := co24) hC67 (by omega) (by omega) hroom67
                              obtain ⟨A67, hA67⟩ : ∃ A1, A1 = (if co24 = (x52_3 : Int).toNat then (some ad8) else ((some ad8) : Option Addr).map (·.add ((x52_3 : Int).toNat * 2))) := ⟨_, rfl⟩
                              obtain ⟨c67, hc67⟩ : ∃ c1, c1 = co24 - (x52_3 : Int).toNat := ⟨_, rfl⟩
                              have hy67 : y13.length = ((wrap64 (x52_3 + 1)) : Int).toNat - (x52_3 : Int).toNat := (by rw [Ny13.out, List.length_drop, List.length_take] <;> omega)
                              rw [show ((t3).take ((wrap64 (x52_3 + 1)) : Int).toNat).drop (x52_3 : Int).toNat = y13 from Ny13.out.symm] at hr67
                              replace hr67 : Kd.C k33 _ A67 y13.length y13 := (by rw [hA67]; exact hr67)
                              rw [← hy67, ← hA67, ← hc67] at hcut67
                              have HR16 := Aside0.mk hr67
                              have HC16 := Aside0.mk (show y13.length ≤ c67 from by rw [hy67, hc67]; exact Nat.sub_le_sub_right (Nat.le_trans (by omega) hroom67) _)
                              clear hr67 hC67 hroom67 hi067 hsz67 hc67
                              have KY67 := Aside0.mk hy67
                              have KA67 := Aside0.mk hA67
                              clear hy67 hA67
                              have KL67 := Aside0.mk (show ((wrap64 (x52_3 + 1)) : Int).toNat ≤ t3.length from by omega)
                              have KM67 := Aside0.mk (show (x52_3 : Int).toNat ≤ ((wrap64 (x52_3 + 1)) : Int).toNat from by omega)
                              replace q67 := eq_true q67
                              go_wp2_with (first | (go_at_call 18; (with_reducible refine (q4z.calls k5 _ _ (rd_L2 l0 x91_5) _ _ y13 t17 _ ?side1 ?side2 ?side3 ?side4 A48.out).mono ?_); (case side1 => repeat (first | exact (Kd.C_below HR12_0.out HB.out) | (with_reducible refine Kd.C_alloc ?_ _) | (with_reducible refine Kd.C_drewN ?_ _) | (with_reducible refine Kd.C_drew ?_))); (case side2 => exact HC12_0.out); (case side3 => repeat (first | exact (by repeat (first | (with_reducible exact HR16.out) | (with_reducible refine Kd.C_alloc ?_ _) | (with_reducible refine Kd.C_drewN ?_ _) | (with_reducible refine Kd.C_drew ?_) | exact HR16.out)) | (with_reducible refine Kd.C_alloc ?_ _) | (with_reducible refine Kd.C_drewN ?_ _) | (with_reducible refine Kd.C_drew ?_))); (case side4 => exact HC16.out); rintro e w68 ⟨v18, rfl, ho0, hb⟩; have n0_ := Aside0.mk (Kd.R_elder' (by (with_reducible repeat (first | apply Kd.R_alloc | apply Kd.R_drewN | apply Kd.R_drew)); exact HO_5.out) (Kd.R_base ho0) hb); have n1_ := Aside0.mk (Kd.R_elder' (by (with_reducible repeat (first | apply Kd.R_alloc | apply Kd.R_drewN | apply Kd.R_drew)); exact HO_50.out) (Kd.R_base ho0) hb); have n2_ := Aside0.mk (Kd.R_lower (Kd.R_newB (Kd.R_new' (Kd.R_new' ho0 (Kd.R_lt (by (with_reducible repeat (first | apply Kd.R_alloc | apply Kd.R_drewN | apply Kd.R_drew)); exact HO_5.out))) (Kd.R_lt (by (with_reducible repeat (first | apply Kd.R_alloc | apply Kd.R_drewN | apply Kd.R_drew)); exact HO_50.out))) (g := gb9) (o := .cells #[.int .u32 ((rd_T33 t3 x52_3).f0), .int .u32 ((rd_T33 t3 x52_3).f1)] 33 (0, 0)) (by (with_reducible repeat (first | refine blk_drewN ?_ _ | refine blk_drew ?_ | refine blk_alloc ?_ _)); exact BK9.out)) (below_size (by repeat (first | (with_reducible first | exact HB.out | apply below_alloc | apply pw_below_drewN | apply below_drew1 | refine below_set ?_ GE9.out) | exact HB.out)))); have n3_ := Aside0.mk (blk_below (g := gb9) (o := .cells #[.int .u32 ((rd_T33 t3 x52_3).f0), .int .u32 ((rd_T33 t3 x52_3).f1)] 33 (0, 0)) (by (with_reducible repeat (first | refine blk_drewN ?_ _ | refine blk_drew ?_ | refine blk_alloc ?_ _)); exact BK9.out) hb); have n4_ := Aside0.mk (Kd.C_below (by repeat (first | (with_reducible exact HR16.out) | (with_reducible refine Kd.C_alloc ?_ _) | (with_reducible refine Kd.C_drewN ?_ _) | (with_reducible refine Kd.C_drew ?_) | exact HR16.out)) hb); have n5_ := Aside0.mk (below_step (by repeat (first | (with_reducible first | exact HB.out | apply below_alloc | apply pw_below_drewN | apply below_drew1 | refine below_set ?_ GE9.out) | exact HB.out)) hb); clear HO_5; clear HO_50; clear BK9; clear HR16; clear HB; have HO_5 := n0_; have HO_50 := n1_; have HO19 := n2_; have BK9 := n3_; have HR16 := n4_; have HB := n5_; clear n0_ n1_ n2_ n3_ n4_ n5_; (try clear hb); (try clear hb2); (try clear hk); (try clear hi); (try clear ho0); have hcz69_0 : w68.cell? ⟨gb9, 0, none⟩ = some (.int .u32 ((rd_T33 t3 x52_3).f0)) := (blk_cell BK9.out 0).trans rfl; have hcz69_1 : w68.cell? ⟨gb9, 1, none⟩ = some (.int .u32 ((rd_T33 t3 x52_3).f1)) := (blk_cell BK9.out 1).trans rfl; have hfz69_0 := blk_frozen BK9.out 0; have hfz69_1 := blk_frozen BK9.out 1) | (go_at_call 16; (with_reducible refine (span_In.calls _ _ (rd_L2 l0 x91_5) ((rd_T33 t3 x52_3).f0) true _ ?side1 ?side2 A49.out).mono ?_); (case side1 => repeat (first | exact (Kd.C_below HR12_0.out HB.out) | (with_reducible refine Kd.C_alloc ?_ _) | (with_reducible refine Kd.C_drewN ?_ _) | (with_reducible refine Kd.C_drew ?_))); (case side2 => exact HC12_0.out); rintro e w70 ⟨rfl, hb⟩; have n0_ := Aside0.mk (Kd.R_below (by (with_reducible repeat (first | apply Kd.R_alloc | apply Kd.R_drewN | apply Kd.R_drew)); exact HO_5.out) hb); have n1_ := Aside0.mk (Kd.R_below (by (with_reducible repeat (first | apply Kd.R_alloc | apply Kd.R_drewN | apply Kd.R_drew)); exact HO_50.out) hb); have n2_ := Aside0.mk (Kd.R_below (by (with_reducible repeat (first | apply Kd.R_alloc | apply Kd.R_drewN | apply Kd.R_drew)); exact HO19.out) hb); have n3_ := Aside0.mk (blk_below (g := gb9) (o := .cells #[.int .u32 ((rd_T33 t3 x52_3).f0), .int .u32 ((rd_T33 t3 x52_3).f1)] 33 (0, 0)) (by (with_reducible repeat (first | refine blk_drewN ?_ _ | refine blk_drew ?_ | refine blk_alloc ?_ _)); exact BK9.out) hb); have n4_ := Aside0.mk (Kd.C_below (by repeat (first | (with_reducible exact HR16.out) | (with_reducible refine Kd.C_alloc ?_ _) | (with_reducible refine Kd.C_drewN ?_ _) | (with_reducible refine Kd.C_drew ?_) | exact HR16.out)) hb); have n5_ := Aside0.mk (below_step (by repeat (first | (with_reducible first | exact HB.out | apply below_alloc | apply pw_below_drewN | apply below_drew1 | refine below_set ?_ GE9.out) | exact HB.out)) hb); clear HO_5; clear HO_50; clear HO19; clear BK9; clear HR16; clear HB; have HO_5 := n0_; have HO_50 := n1_; have HO19 := n2_; have BK9 := n3_; have HR16 := n4_; have HB := n5_; clear n0_ n1_ n2_ n3_ n4_ n5_; (try clear hb); (try clear hb2); (try clear hk); (try clear hi); have q71 : ((wrap64 (x52_3 + 1)) : Int) ≤ ((t3.length : Int) : Int) := of_decide_eq_true (by first | (with_reducible assumption) | assumption); obtain ⟨i071, hi071, _, hsz71, _⟩ := info_parts info33; have hroom71 : t3.length ≤ co24 := (Kd.R_reads' HO_5.out).2.1; have hC71 : Kd.C k33 _ (some ad8) t3.length t3 := (Kd.R_reads' HO_5.out).2.2; have ql71 : (x52_3 : Int) ≤ ((wrap64 (x52_3 + 1)) : Int) := of_decide_eq_true (by first | (with_reducible assumption) | assumption); have q071 : (0 : Int) ≤ (x52_3 : Int) := of_decide_eq_true (by first | (with_reducible assumption) | assumption); have hcut71 := cut_mid (P := Try.prog) 24 33 .i64 .i64 Try.underlying24 hi071 2 hsz71 (some ad8) t3.length co24 x52_3 (wrap64 (x52_3 + 1)) q071 ql71 q71 hroom71; have hr71 := Kd.C_mid (lo := (x52_3 : Int).toNat) (hi := ((wrap64 (x52_3 + 1)) : Int).toNat) (c := co24) hC71 (by omega) (by omega) hroom71; obtain ⟨A71, hA71⟩ : ∃ A1, A1 = (if co24 = (x52_3 : Int).toNat then (some ad8) else ((some ad8) : Option Addr).map (·.add ((x52_3 : Int).toNat * 2))) := ⟨_, rfl⟩; obtain ⟨c71, hc71⟩ : ∃ c1, c1 = co24 - (x52_3 : Int).toNat := ⟨_, rfl⟩; have hy71 : y21.length = ((wrap64 (x52_3 + 1)) : Int).toNat - (x52_3 : Int).toNat := (by rw [Ny21.out, List.length_drop, List.length_take] <;> omega); rw [show ((t3).take ((wrap64 (x52_3 + 1)) : Int).toNat).drop (x52_3 : Int).toNat = y21 from Ny21.out.symm] at hr71; replace hr71 : Kd.C k33 _ A71 y21.length y21 := (by rw [hA71]; exact hr71); rw [← hy71, ← hA71, ← hc71] at hcut71; have HR24 := Aside0.mk hr71; have HC24 := Aside0.mk (show y21.length ≤ c71 from by rw [hy71, hc71]; exact Nat.sub_le_sub_right (Nat.le_trans (by omega) hroom71) _); clear hr71 hC71 hroom71 hi071 hsz71 hc71; have KY71 := Aside0.mk hy71; have KA71 := Aside0.mk hA71; clear hy71 hA71; have KL71 := Aside0.mk (show ((wrap64 (x52_3 + 1)) : Int).toNat ≤ t3.length from by omega); have KM71 := Aside0.mk (show (x52_3 : Int).toNat ≤ ((wrap64 (x52_3 + 1)) : Int).toNat from by omega); replace q71 := eq_true q71; obtain ⟨Ao72, co72, eo72⟩ := Kd.R_slice HO19.out; subst eo72) | (go_at_call 10; (with_reducible refine (q1z.calls k5 _ _ t17 _ _ y13 true _ ?side1 ?side2 ?side3 ?side4 (show q1z.f k5 t17 y13 = some true from (congrArg (q1z.f k5 t17) (Ny13.out.trans Ny21.out.symm)).trans A54.out)).mono ?_); (case side1 => repeat (first | exact (Kd.R_reads' HO19.out).2.2 | (with_reducible refine Kd.C_alloc ?_ _) | (with_reducible refine Kd.C_drewN ?_ _) | (with_reducible refine Kd.C_drew ?_))); (case side2 => exact (Kd.R_reads' HO19.out).2.1); (case side3 => repeat (first | exact (by repeat (first | (with_reducible exact HR16.out) | (with_reducible refine Kd.C_alloc ?_ _) | (with_reducible refine Kd.C_drewN ?_ _) | (with_reducible refine Kd.C_drew ?_) | exact HR16.out)) | (with_reducible refine Kd.C_alloc ?_ _) | (with_reducible refine Kd.C_drewN ?_ _) | (with_reducible refine Kd.C_drew ?_))); (case side4 => exact HC16.out); rintro e w' ⟨rfl, ⟨nd, rfl⟩⟩; (try first | exact ⟨rfl, _, World.drewN_drewN _ _ _⟩ | exact ⟨rfl, _, Eq.trans (World.drewN_drewN _ _ _) (congrArg (World.drewN _) (Nat.add_assoc _ _ _))⟩); have p26 : 0 ≤ ((ji63) : Int) := of_decide_eq_true (by first | (with_reducible assumption) | assumption); have q26 : (ji63) < (t3.length : Int) := of_decide_eq_true (by first | (with_reducible assumption) | assumption); obtain ⟨ad26, e26, hx26_0, hx26_1⟩ := at_T33 (Kd.R_reads' HO_5.out).2.2 (ji63) p26 q26; obtain rfl : ad8 = ad26 := (by injection e26); replace p26 := eq_true p26; replace q26 := eq_true q26) | (go_at_call 16; (with_reducible refine (span_In.calls _ _ (rd_L2 l0 x91_5) ((rd_T33 t3 (ji63)).f0) t27 _ ?side1 ?side2 A66.out).mono ?_); (case side1 => repeat (first | exact (Kd.C_below HR12_0.out (by repeat (first | (with_reducible first | exact HB.out | apply below_alloc | apply pw_below_drewN | apply below_drew1 | refine below_set ?_ GE9.out) | exact HB.out))) | (with_reducible refine Kd.C_alloc ?_ _) | (with_reducible refine Kd.C_drewN ?_ _) | (with_reducible refine Kd.C_drew ?_))); (case side2 => exact HC12_0.out); rintro e w73 ⟨rfl, hb⟩; have n0_ := Aside0.mk (Kd.R_below (by (with_reducible repeat (first | apply Kd.R_alloc | apply Kd.R_drewN | apply Kd.R_drew)); exact HO_5.out) hb); have n1_ := Aside0.mk (Kd.R_below (by (with_reducible repeat (first | apply Kd.R_alloc | apply Kd.R_drewN | apply Kd.R_drew)); exact HO_50.out) hb); have n2_ := Aside0.mk (Kd.R_below (by (with_reducible repeat (first | apply Kd.R_alloc | apply Kd.R_drewN | apply Kd.R_drew)); exact HO19.out) hb); have n3_ := Aside0.mk (blk_below (g := gb9) (o := .cells #[.int .u32 ((rd_T33 t3 x52_3).f0), .int .u32 ((rd_T33 t3 x52_3).f1)] 33 (0, 0)) (by (with_reducible repeat (first | refine blk_drewN ?_ _ | refine blk_drew ?_ | refine blk_alloc ?_ _)); exact BK9.out) hb); have n4_ := Aside0.mk (Kd.C_below (by repeat (first | (with_reducible exact HR16.out) | (with_reducible refine Kd.C_alloc ?_ _) | (with_reducible refine Kd.C_drewN ?_ _) | (with_reducible refine Kd.C_drew ?_) | exact HR16.out)) hb); have n5_ := Aside0.mk (Kd.C_below (by repeat (first | (with_reducible exact HR24.out) | (with_reducible refine Kd.C_alloc ?_ _) | (with_reducible refine Kd.C_drewN ?_ _) | (with_reducible refine Kd.C_drew ?_) | exact HR24.out)) hb); have n6_ := Aside0.mk (below_step (by repeat (first | (with_reducible first | exact HB.out | apply below_alloc | apply pw_below_drewN | apply below_drew1 | refine below_set ?_ GE9.out) | exact HB.out)) hb); clear HO_5; clear HO_50; clear HO19; clear BK9; clear HR16; clear HR24; clear HB; have HO_5 := n0_; have HO_50 := n1_; have HO19 := n2_; have BK9 := n3_; have HR16 := n4_; have HR24 := n5_; have HB := n6_; clear n0_ n1_ n2_ n3_ n4_ n5_ n6_; (try clear hb); (try clear hb2); (try clear hk); (try clear hi)))
                              repeat (go_quiet (first | (go_at_call 18; (with_reducible refine (q4z.calls k5 _ _ (rd_L2 l0 x91_5) _ _ y13 t17 _ ?side1 ?side2 ?side3 ?side4 A48.out).mono ?_); (case side1 => repeat (first | exact (Kd.C_below HR12_0.out HB.out) | (with_reducible refine Kd.C_alloc ?_ _) | (with_reducible refine Kd.C_drewN ?_ _) | (with_reducible refine Kd.C_drew ?_))); (case side2 => exact HC12_0.out); (case side3 => repeat (first | exact (by repeat (first | (with_reducible exact HR16.out) | (with_reducible refine Kd.C_alloc ?_ _) | (with_reducible refine Kd.C_drewN ?_ _) | (with_reducible refine Kd.C_drew ?_) | exact HR16.out)) | (with_reducible refine Kd.C_alloc ?_ _) | (with_reducible refine Kd.C_drewN ?_ _) | (with_reducible refine Kd.C_drew ?_))); (case side4 => exact HC16.out); rintro e w68 ⟨v18, rfl, ho0, hb⟩; have n0_ := Aside0.mk (Kd.R_elder' (by (with_reducible repeat (first | apply Kd.R_alloc | apply Kd.R_drewN | apply Kd.R_drew)); exact HO_5.out) (Kd.R_base ho0) hb); have n1_ := Aside0.mk (Kd.R_elder' (by (with_reducible repeat (first | apply Kd.R_alloc | apply Kd.R_drewN | apply Kd.R_drew)); exact HO_50.out) (Kd.R_base ho0) hb); have n2_ := Aside0.mk (Kd.R_lower (Kd.R_newB (Kd.R_new' (Kd.R_new' ho0 (Kd.R_lt (by (with_reducible repeat (first | apply Kd.R_alloc | apply Kd.R_drewN | apply Kd.R_drew)); exact HO_5.out))) (Kd.R_lt (by (with_reducible repeat (first | apply Kd.R_alloc | apply Kd.R_drewN | apply Kd.R_drew)); exact HO_50.out))) (g := gb9) (o := .cells #[.int .u32 ((rd_T33 t3 x52_3).f0), .int .u32 ((rd_T33 t3 x52_3).f1)] 33 (0, 0)) (by (with_reducible repeat (first | refine blk_drewN ?_ _ | refine blk_drew ?_ | refine blk_alloc ?_ _)); exact BK9.out)) (below_size (by repeat (first | (with_reducible first | exact HB.out | apply below_alloc | apply pw_below_drewN | apply below_drew1 | refine below_set ?_ GE9.out) | exact HB.out)))); have n3_ := Aside0.mk (blk_below (g := gb9) (o := .cells #[.int .u32 ((rd_T33 t3 x52_3).f0), .int .u32 ((rd_T33 t3 x52_3).f1)] 33 (0, 0)) (by (with_reducible repeat (first | refine blk_drewN ?_ _ | refine blk_drew ?_ | refine blk_alloc ?_ _)); exact BK9.out) hb); have n4_ := Aside0.mk (Kd.C_below (by repeat (first | (with_reducible exact HR16.out) | (with_reducible refine Kd.C_alloc ?_ _) | (with_reducible refine Kd.C_drewN ?_ _) | (with_reducible refine Kd.C_drew ?_) | exact HR16.out)) hb); have n5_ := Aside0.mk (below_step (by repeat (first | (with_reducible first | exact HB.out | apply below_alloc | apply pw_below_drewN | apply below_drew1 | refine below_set ?_ GE9.out) | exact HB.out)) hb); clear HO_5; clear HO_50; clear BK9; clear HR16; clear HB; have HO_5 := n0_; have HO_50 := n1_; have HO19 := n2_; have BK9 := n3_; have HR16 := n4_; have HB := n5_; clear n0_ n1_ n2_ n3_ n4_ n5_; (try clear hb); (try clear hb2); (try clear hk); (try clear hi); (try clear ho0); have hcz69_0 : w68.cell? ⟨gb9, 0, none⟩ = some (.int .u32 ((rd_T33 t3 x52_3).f0)) := (blk_cell BK9.out 0).trans rfl; have hcz69_1 : w68.cell? ⟨gb9, 1, none⟩ = some (.int .u32 ((rd_T33 t3 x52_3).f1)) := (blk_cell BK9.out 1).trans rfl; have hfz69_0 := blk_frozen BK9.out 0; have hfz69_1 := blk_frozen BK9.out 1) | (go_at_call 16; (with_reducible refine (span_In.calls _ _ (rd_L2 l0 x91_5) ((rd_T33 t3 x52_3).f0) true _ ?side1 ?side2 A49.out).mono ?_); (case side1 => repeat (first | exact (Kd.C_below HR12_0.out HB.out) | (with_reducible refine Kd.C_alloc ?_ _) | (with_reducible refine Kd.C_drewN ?_ _) | (with_reducible refine Kd.C_drew ?_))); (case side2 => exact HC12_0.out); rintro e w70 ⟨rfl, hb⟩; have n0_ := Aside0.mk (Kd.R_below (by (with_reducible repeat (first | apply Kd.R_alloc | apply Kd.R_drewN | apply Kd.R_drew)); exact HO_5.out) hb); have n1_ := Aside0.mk (Kd.R_below (by (with_reducible repeat (first | apply Kd.R_alloc | apply Kd.R_drewN | apply Kd.R_drew)); exact HO_50.out) hb); have n2_ := Aside0.mk (Kd.R_below (by (with_reducible repeat (first | apply Kd.R_alloc | apply Kd.R_drewN | apply Kd.R_drew)); exact HO19.out) hb); have n3_ := Aside0.mk (blk_below (g := gb9) (o := .cells #[.int .u32 ((rd_T33 t3 x52_3).f0), .int .u32 ((rd_T33 t3 x52_3).f1)] 33 (0, 0)) (by (with_reducible repeat (first | refine blk_drewN ?_ _ | refine blk_drew ?_ | refine blk_alloc ?_ _)); exact BK9.out) hb); have n4_ := Aside0.mk (Kd.C_below (by repeat (first | (with_reducible exact HR16.out) | (with_reducible refine Kd.C_alloc ?_ _) | (with_reducible refine Kd.C_drewN ?_ _) | (with_reducible refine Kd.C_drew ?_) | exact HR16.out)) hb); have n5_ := Aside0.mk (below_step (by repeat (first | (with_reducible first | exact HB.out | apply below_alloc | apply pw_below_drewN | apply below_drew1 | refine below_set ?_ GE9.out) | exact HB.out)) hb); clear HO_5; clear HO_50; clear HO19; clear BK9; clear HR16; clear HB; have HO_5 := n0_; have HO_50 := n1_; have HO19 := n2_; have BK9 := n3_; have HR16 := n4_; have HB := n5_; clear n0_ n1_ n2_ n3_ n4_ n5_; (try clear hb); (try clear hb2); (try clear hk); (try clear hi); have q71 : ((wrap64 (x52_3 + 1)) : Int) ≤ ((t3.length : Int) : Int) := of_decide_eq_true (by first | (with_reducible assumption) | assumption); obtain ⟨i071, hi071, _, hsz71, _⟩ := info_parts info33; have hroom71 : t3.length ≤ co24 := (Kd.R_reads' HO_5.out).2.1; have hC71 : Kd.C k33 _ (some ad8) t3.length t3 := (Kd.R_reads' HO_5.out).2.2; have ql71 : (x52_3 : Int) ≤ ((wrap64 (x52_3 + 1)) : Int) := of_decide_eq_true (by first | (with_reducible assumption) | assumption); have q071 : (0 : Int) ≤ (x52_3 : Int) := of_decide_eq_true (by first | (with_reducible assumption) | assumption); have hcut71 := cut_mid (P := Try.prog) 24 33 .i64 .i64 Try.underlying24 hi071 2 hsz71 (some ad8) t3.length co24 x52_3 (wrap64 (x52_3 + 1)) q071 ql71 q71 hroom71; have hr71 := Kd.C_mid (lo := (x52_3 : Int).toNat) (hi := ((wrap64 (x52_3 + 1)) : Int).toNat) (c := co24) hC71 (by omega) (by omega) hroom71; obtain ⟨A71, hA71⟩ : ∃ A1, A1 = (if co24 = (x52_3 : Int).toNat then (some ad8) else ((some ad8) : Option Addr).map (·.add ((x52_3 : Int).toNat * 2))) := ⟨_, rfl⟩; obtain ⟨c71, hc71⟩ : ∃ c1, c1 = co24 - (x52_3 : Int).toNat := ⟨_, rfl⟩; have hy71 : y21.length = ((wrap64 (x52_3 + 1)) : Int).toNat - (x52_3 : Int).toNat := (by rw [Ny21.out, List.length_drop, List.length_take] <;> omega); rw [show ((t3).take ((wrap64 (x52_3 + 1)) : Int).toNat).drop (x52_3 : Int).toNat = y21 from Ny21.out.symm] at hr71; replace hr71 : Kd.C k33 _ A71 y21.length y21 := (by rw [hA71]; exact hr71); rw [← hy71, ← hA71, ← hc71] at hcut71; have HR24 := Aside0.mk hr71; have HC24 := Aside0.mk (show y21.length ≤ c71 from by rw [hy71, hc71]; exact Nat.sub_le_sub_right (Nat.le_trans (by omega) hroom71) _); clear hr71 hC71 hroom71 hi071 hsz71 hc71; have KY71 := Aside0.mk hy71; have KA71 := Aside0.mk hA71; clear hy71 hA71; have KL71 := Aside0.mk (show ((wrap64 (x52_3 + 1)) : Int).toNat ≤ t3.length from by omega); have KM71 := Aside0.mk (show (x52_3 : Int).toNat ≤ ((wrap64 (x52_3 + 1)) : Int).toNat from by omega); replace q71 := eq_true q71; obtain ⟨Ao72, co72, eo72⟩ := Kd.R_slice HO19.out; subst eo72) | (go_at_call 10; (with_reducible refine (q1z.calls k5 _ _ t17 _ _ y13 true _ ?side1 ?side2 ?side3 ?side4 (show q1z.f k5 t17 y13 = some true from (congrArg (q1z.f k5 t17) (Ny13.out.trans Ny21.out.symm)).trans A54.out)).mono ?_); (case side1 => repeat (first | exact (Kd.R_reads' HO19.out).2.2 | (with_reducible refine Kd.C_alloc ?_ _) | (with_reducible refine Kd.C_drewN ?_ _) | (with_reducible refine Kd.C_drew ?_))); (case side2 => exact (Kd.R_reads' HO19.out).2.1); (case side3 => repeat (first | exact (by repeat (first | (with_reducible exact HR16.out) | (with_reducible refine Kd.C_alloc ?_ _) | (with_reducible refine Kd.C_drewN ?_ _) | (with_reducible refine Kd.C_drew ?_) | exact HR16.out)) | (with_reducible refine Kd.C_alloc ?_ _) | (with_reducible refine Kd.C_drewN ?_ _) | (with_reducible refine Kd.C_drew ?_))); (case side4 => exact HC16.out); rintro e w' ⟨rfl, ⟨nd, rfl⟩⟩; (try first | exact ⟨rfl, _, World.drewN_drewN _ _ _⟩ | exact ⟨rfl, _, Eq.trans (World.drewN_drewN _ _ _) (congrArg (World.drewN _) (Nat.add_assoc _ _ _))⟩); have p26 : 0 ≤ ((ji63) : Int) := of_decide_eq_true (by first | (with_reducible assumption) | assumption); have q26 : (ji63) < (t3.length : Int) := of_decide_eq_true (by first | (with_reducible assumption) | assumption); obtain ⟨ad26, e26, hx26_0, hx26_1⟩ := at_T33 (Kd.R_reads' HO_5.out).2.2 (ji63) p26 q26; obtain rfl : ad8 = ad26 := (by injection e26); replace p26 := eq_true p26; replace q26 := eq_true q26) | (go_at_call 16; (with_reducible refine (span_In.calls _ _ (rd_L2 l0 x91_5) ((rd_T33 t3 (ji63)).f0) t27 _ ?side1 ?side2 A66.out).mono ?_); (case side1 => repeat (first | exact (Kd.C_below HR12_0.out (by repeat (first | (with_reducible first | exact HB.out | apply below_alloc | apply pw_below_drewN | apply below_drew1 | refine below_set ?_ GE9.out) | exact HB.out))) | (with_reducible refine Kd.C_alloc ?_ _) | (with_reducible refine Kd.C_drewN ?_ _) | (with_reducible refine Kd.C_drew ?_))); (case side2 => exact HC12_0.out); rintro e w73 ⟨rfl, hb⟩; have n0_ := Aside0.mk (Kd.R_below (by (with_reducible repeat (first | apply Kd.R_alloc | apply Kd.R_drewN | apply Kd.R_drew)); exact HO_5.out) hb); have n1_ := Aside0.mk (Kd.R_below (by (with_reducible repeat (first | apply Kd.R_alloc | apply Kd.R_drewN | apply Kd.R_drew)); exact HO_50.out) hb); have n2_ := Aside0.mk (Kd.R_below (by (with_reducible repeat (first | apply Kd.R_alloc | apply Kd.R_drewN | apply Kd.R_drew)); exact HO19.out) hb); have n3_ := Aside0.mk (blk_below (g := gb9) (o := .cells #[.int .u32 ((rd_T33 t3 x52_3).f0), .int .u32 ((rd_T33 t3 x52_3).f1)] 33 (0, 0)) (by (with_reducible repeat (first | refine blk_drewN ?_ _ | refine blk_drew ?_ | refine blk_alloc ?_ _)); exact BK9.out) hb); have n4_ := Aside0.mk (Kd.C_below (by repeat (first | (with_reducible exact HR16.out) | (with_reducible refine Kd.C_alloc ?_ _) | (with_reducible refine Kd.C_drewN ?_ _) | (with_reducible refine Kd.C_drew ?_) | exact HR16.out)) hb); have n5_ := Aside0.mk (Kd.C_below (by repeat (first | (with_reducible exact HR24.out) | (with_reducible refine Kd.C_alloc ?_ _) | (with_reducible refine Kd.C_drewN ?_ _) | (with_reducible refine Kd.C_drew ?_) | exact HR24.out)) hb); have n6_ := Aside0.mk (below_step (by repeat (first | (with_reducible first | exact HB.out | apply below_alloc | apply pw_below_drewN | apply below_drew1 | refine below_set ?_ GE9.out) | exact HB.out)) hb); clear HO_5; clear HO_50; clear HO19; clear BK9; clear HR16; clear HR24; clear HB; have HO_5 := n0_; have HO_50 := n1_; have HO19 := n2_; have BK9 := n3_; have HR16 := n4_; have HR24 := n5_; have HB := n6_; clear n0_ n1_ n2_ n3_ n4_ n5_ n6_; (try clear hb); (try clear hb2); (try clear hk); (try clear hi))); try go_wp2_with (first | (go_at_call 18; (with_reducible refine (q4z.calls k5 _ _ (rd_L2 l0 x91_5) _ _ y13 t17 _ ?side1 ?side2 ?side3 ?side4 A48.out).mono ?_); (case side1 => repeat (first | exact (Kd.C_below HR12_0.out HB.out) | (with_reducible refine Kd.C_alloc ?_ _) | (with_reducible refine Kd.C_drewN ?_ _) | (with_reducible refine Kd.C_drew ?_))); (case side2 => exact HC12_0.out); (case side3 => repeat (first | exact (by repeat (first | (with_reducible exact HR16.out) | (with_reducible refine Kd.C_alloc ?_ _) | (with_reducible refine Kd.C_drewN ?_ _) | (with_reducible refine Kd.C_drew ?_) | exact HR16.out)) | (with_reducible refine Kd.C_alloc ?_ _) | (with_reducible refine Kd.C_drewN ?_ _) | (with_reducible refine Kd.C_drew ?_))); (case side4 => exact HC16.out); rintro e w68 ⟨v18, rfl, ho0, hb⟩; have n0_ := Aside0.mk (Kd.R_elder' (by (with_reducible repeat (first | apply Kd.R_alloc | apply Kd.R_drewN | apply Kd.R_drew)); exact HO_5.out) (Kd.R_base ho0) hb); have n1_ := Aside0.mk (Kd.R_elder' (by (with_reducible repeat (first | apply Kd.R_alloc | apply Kd.R_drewN | apply Kd.R_drew)); exact HO_50.out) (Kd.R_base ho0) hb); have n2_ := Aside0.mk (Kd.R_lower (Kd.R_newB (Kd.R_new' (Kd.R_new' ho0 (Kd.R_lt (by (with_reducible repeat (first | apply Kd.R_alloc | apply Kd.R_drewN | apply Kd.R_drew)); exact HO_5.out))) (Kd.R_lt (by (with_reducible repeat (first | apply Kd.R_alloc | apply Kd.R_drewN | apply Kd.R_drew)); exact HO_50.out))) (g := gb9) (o := .cells #[.int .u32 ((rd_T33 t3 x52_3).f0), .int .u32 ((rd_T33 t3 x52_3).f1)] 33 (0, 0)) (by (with_reducible repeat (first | refine blk_drewN ?_ _ | refine blk_drew ?_ | refine blk_alloc ?_ _)); exact BK9.out)) (below_size (by repeat (first | (with_reducible first | exact HB.out | apply below_alloc | apply pw_below_drewN | apply below_drew1 | refine below_set ?_ GE9.out) | exact HB.out)))); have n3_ := Aside0.mk (blk_below (g := gb9) (o := .cells #[.int .u32 ((rd_T33 t3 x52_3).f0), .int .u32 ((rd_T33 t3 x52_3).f1)] 33 (0, 0)) (by (with_reducible repeat (first | refine blk_drewN ?_ _ | refine blk_drew ?_ | refine blk_alloc ?_ _)); exact BK9.out) hb); have n4_ := Aside0.mk (Kd.C_below (by repeat (first | (with_reducible exact HR16.out) | (with_reducible refine Kd.C_alloc ?_ _) | (with_reducible refine Kd.C_drewN ?_ _) | (with_reducible refine Kd.C_drew ?_) | exact HR16.out)) hb); have n5_ := Aside0.mk (below_step (by repeat (first | (with_reducible first | exact HB.out | apply below_alloc | apply pw_below_drewN | apply below_drew1 | refine below_set ?_ GE9.out) | exact HB.out)) hb); clear HO_5; clear HO_50; clear BK9; clear HR16; clear HB; have HO_5 := n0_; have HO_50 := n1_; have HO19 := n2_; have BK9 := n3_; have HR16 := n4_; have HB := n5_; clear n0_ n1_ n2_ n3_ n4_ n5_; (try clear hb); (try clear hb2); (try clear hk); (try clear hi); (try clear ho0); have hcz69_0 : w68.cell? ⟨gb9, 0, none⟩ = some (.int .u32 ((rd_T33 t3 x52_3).f0)) := (blk_cell BK9.out 0).trans rfl; have hcz69_1 : w68.cell? ⟨gb9, 1, none⟩ = some (.int .u32 ((rd_T33 t3 x52_3).f1)) := (blk_cell BK9.out 1).trans rfl; have hfz69_0 := blk_frozen BK9.out 0; have hfz69_1 := blk_frozen BK9.out 1) | (go_at_call 16; (with_reducible refine (span_In.calls _ _ (rd_L2 l0 x91_5) ((rd_T33 t3 x52_3).f0) true _ ?side1 ?side2 A49.out).mono ?_); (case side1 => repeat (first | exact (Kd.C_below HR12_0.out HB.out) | (with_reducible refine Kd.C_alloc ?_ _) | (with_reducible refine Kd.C_drewN ?_ _) | (with_reducible refine Kd.C_drew ?_))); (case side2 => exact HC12_0.out); rintro e w70 ⟨rfl, hb⟩; have n0_ := Aside0.mk (Kd.R_below (by (with_reducible repeat (first | apply Kd.R_alloc | apply Kd.R_drewN | apply Kd.R_drew)); exact HO_5.out) hb); have n1_ := Aside0.mk (Kd.R_below (by (with_reducible repeat (first | apply Kd.R_alloc | apply Kd.R_drewN | apply Kd.R_drew)); exact HO_50.out) hb); have n2_ := Aside0.mk (Kd.R_below (by (with_reducible repeat (first | apply Kd.R_alloc | apply Kd.R_drewN | apply Kd.R_drew)); exact HO19.out) hb); have n3_ := Aside0.mk (blk_below (g := gb9) (o := .cells #[.int .u32 ((rd_T33 t3 x52_3).f0), .int .u32 ((rd_T33 t3 x52_3).f1)] 33 (0, 0)) (by (with_reducible repeat (first | refine blk_drewN ?_ _ | refine blk_drew ?_ | refine blk_alloc ?_ _)); exact BK9.out) hb); have n4_ := Aside0.mk (Kd.C_below (by repeat (first | (with_reducible exact HR16.out) | (with_reducible refine Kd.C_alloc ?_ _) | (with_reducible refine Kd.C_drewN ?_ _) | (with_reducible refine Kd.C_drew ?_) | exact HR16.out)) hb); have n5_ := Aside0.mk (below_step (by repeat (first | (with_reducible first | exact HB.out | apply below_alloc | apply pw_below_drewN | apply below_drew1 | refine below_set ?_ GE9.out) | exact HB.out)) hb); clear HO_5; clear HO_50; clear HO19; clear BK9; clear HR16; clear HB; have HO_5 := n0_; have HO_50 := n1_; have HO19 := n2_; have BK9 := n3_; have HR16 := n4_; have HB := n5_; clear n0_ n1_ n2_ n3_ n4_ n5_; (try clear hb); (try clear hb2); (try clear hk); (try clear hi); have q71 : ((wrap64 (x52_3 + 1)) : Int) ≤ ((t3.length : Int) : Int) := of_decide_eq_true (by first | (with_reducible assumption) | assumption); obtain ⟨i071, hi071, _, hsz71, _⟩ := info_parts info33; have hroom71 : t3.length ≤ co24 := (Kd.R_reads' HO_5.out).2.1; have hC71 : Kd.C k33 _ (some ad8) t3.length t3 := (Kd.R_reads' HO_5.out).2.2; have ql71 : (x52_3 : Int) ≤ ((wrap64 (x52_3 + 1)) : Int) := of_decide_eq_true (by first | (with_reducible assumption) | assumption); have q071 : (0 : Int) ≤ (x52_3 : Int) := of_decide_eq_true (by first | (with_reducible assumption) | assumption); have hcut71 := cut_mid (P := Try.prog) 24 33 .i64 .i64 Try.underlying24 hi071 2 hsz71 (some ad8) t3.length co24 x52_3 (wrap64 (x52_3 + 1)) q071 ql71 q71 hroom71; have hr71 := Kd.C_mid (lo := (x52_3 : Int).toNat) (hi := ((wrap64 (x52_3 + 1)) : Int).toNat) (c := co24) hC71 (by omega) (by omega) hroom71; obtain ⟨A71, hA71⟩ : ∃ A1, A1 = (if co24 = (x52_3 : Int).toNat then (some ad8) else ((some ad8) : Option Addr).map (·.add ((x52_3 : Int).toNat * 2))) := ⟨_, rfl⟩; obtain ⟨c71, hc71⟩ : ∃ c1, c1 = co24 - (x52_3 : Int).toNat := ⟨_, rfl⟩; have hy71 : y21.length = ((wrap64 (x52_3 + 1)) : Int).toNat - (x52_3 : Int).toNat := (by rw [Ny21.out, List.length_drop, List.length_take] <;> omega); rw [show ((t3).take ((wrap64 (x52_3 + 1)) : Int).toNat).drop (x52_3 : Int).toNat = y21 from Ny21.out.symm] at hr71; replace hr71 : Kd.C k33 _ A71 y21.length y21 := (by rw [hA71]; exact hr71); rw [← hy71, ← hA71, ← hc71] at hcut71; have HR24 := Aside0.mk hr71; have HC24 := Aside0.mk (show y21.length ≤ c71 from by rw [hy71, hc71]; exact Nat.sub_le_sub_right (Nat.le_trans (by omega) hroom71) _); clear hr71 hC71 hroom71 hi071 hsz71 hc71; have KY71 := Aside0.mk hy71; have KA71 := Aside0.mk hA71; clear hy71 hA71; have KL71 := Aside0.mk (show ((wrap64 (x52_3 + 1)) : Int).toNat ≤ t3.length from by omega); have KM71 := Aside0.mk (show (x52_3 : Int).toNat ≤ ((wrap64 (x52_3 + 1)) : Int).toNat from by omega); replace q71 := eq_true q71; obtain ⟨Ao72, co72, eo72⟩ := Kd.R_slice HO19.out; subst eo72) | (go_at_call 10; (with_reducible refine (q1z.calls k5 _ _ t17 _ _ y13 true _ ?side1 ?side2 ?side3 ?side4 (show q1z.f k5 t17 y13 = some true from (congrArg (q1z.f k5 t17) (Ny13.out.trans Ny21.out.symm)).trans A54.out)).mono ?_); (case side1 => repeat (first | exact (Kd.R_reads' HO19.out).2.2 | (with_reducible refine Kd.C_alloc ?_ _) | (with_reducible refine Kd.C_drewN ?_ _) | (with_reducible refine Kd.C_drew ?_))); (case side2 => exact (Kd.R_reads' HO19.out).2.1); (case side3 => repeat (first | exact (by repeat (first | (with_reducible exact HR16.out) | (with_reducible refine Kd.C_alloc ?_ _) | (with_reducible refine Kd.C_drewN ?_ _) | (with_reducible refine Kd.C_drew ?_) | exact HR16.out)) | (with_reducible refine Kd.C_alloc ?_ _) | (with_reducible refine Kd.C_drewN ?_ _) | (with_reducible refine Kd.C_drew ?_))); (case side4 => exact HC16.out); rintro e w' ⟨rfl, ⟨nd, rfl⟩⟩; (try first | exact ⟨rfl, _, World.drewN_drewN _ _ _⟩ | exact ⟨rfl, _, Eq.trans (World.drewN_drewN _ _ _) (congrArg (World.drewN _) (Nat.add_assoc _ _ _))⟩); have p26 : 0 ≤ ((ji63) : Int) := of_decide_eq_true (by first | (with_reducible assumption) | assumption); have q26 : (ji63) < (t3.length : Int) := of_decide_eq_true (by first | (with_reducible assumption) | assumption); obtain ⟨ad26, e26, hx26_0, hx26_1⟩ := at_T33 (Kd.R_reads' HO_5.out).2.2 (ji63) p26 q26; obtain rfl : ad8 = ad26 := (by injection e26); replace p26 := eq_true p26; replace q26 := eq_true q26) | (go_at_call 16; (with_reducible refine (span_In.calls _ _ (rd_L2 l0 x91_5) ((rd_T33 t3 (ji63)).f0) t27 _ ?side1 ?side2 A66.out).mono ?_); (case side1 => repeat (first | exact (Kd.C_below HR12_0.out (by repeat (first | (with_reducible first | exact HB.out | apply below_alloc | apply pw_below_drewN | apply below_drew1 | refine below_set ?_ GE9.out) | exact HB.out))) | (with_reducible refine Kd.C_alloc ?_ _) | (with_reducible refine Kd.C_drewN ?_ _) | (with_reducible refine Kd.C_drew ?_))); (case side2 => exact HC12_0.out); rintro e w73 ⟨rfl, hb⟩; have n0_ := Aside0.mk (Kd.R_below (by (with_reducible repeat (first | apply Kd.R_alloc | apply Kd.R_drewN | apply Kd.R_drew)); exact HO_5.out) hb); have n1_ := Aside0.mk (Kd.R_below (by (with_reducible repeat (first | apply Kd.R_alloc | apply Kd.R_drewN | apply Kd.R_drew)); exact HO_50.out) hb); have n2_ := Aside0.mk (Kd.R_below (by (with_reducible repeat (first | apply Kd.R_alloc | apply Kd.R_drewN | apply Kd.R_drew)); exact HO19.out) hb); have n3_ := Aside0.mk (blk_below (g := gb9) (o := .cells #[.int .u32 ((rd_T33 t3 x52_3).f0), .int .u32 ((rd_T33 t3 x52_3).f1)] 33 (0, 0)) (by (with_reducible repeat (first | refine blk_drewN ?_ _ | refine blk_drew ?_ | refine blk_alloc ?_ _)); exact BK9.out) hb); have n4_ := Aside0.mk (Kd.C_below (by repeat (first | (with_reducible exact HR16.out) | (with_reducible refine Kd.C_alloc ?_ _) | (with_reducible refine Kd.C_drewN ?_ _) | (with_reducible refine Kd.C_drew ?_) | exact HR16.out)) hb); have n5_ := Aside0.mk (Kd.C_below (by repeat (first | (with_reducible exact HR24.out) | (with_reducible refine Kd.C_alloc ?_ _) | (with_reducible refine Kd.C_drewN ?_ _) | (with_reducible refine Kd.C_drew ?_) | exact HR24.out)) hb); have n6_ := Aside0.mk (below_step (by repeat (first | (with_reducible first | exact HB.out | apply below_alloc | apply pw_below_drewN | apply below_drew1 | refine below_set ?_ GE9.out) | exact HB.out)) hb); clear HO_5; clear HO_50; clear HO19; clear BK9; clear HR16; clear HR24; clear HB; have HO_5 := n0_; have HO_50 := n1_; have HO19 := n2_; have BK9 := n3_; have HR16 := n4_; have HR24 := n5_; have HB := n6_; clear n0_ n1_ n2_ n3_ n4_ n5_ n6_; (try clear hb); (try clear hb2); (try clear hk); (try clear hi))))
                              go_roundg k5
                              case measure => have := HK1.out; have := HJ11.out; have := HK3.out; have := HJ27.out; have := HK5.out; omega
                              case rel => exact ⟨((true != t27)), (wrap64 (x91_5 + 1)), (by first | rfl | (simp; done) | (simp [*]; done)), (by first | rfl | (simp; done) | (simp [*]; done)), H', ⟨by have := HK1.out; have := HJ11.out; have := HK3.out; have := HJ27.out; have := HK5.out; omega⟩, ⟨by (with_reducible repeat (first | apply Kd.R_alloc | apply Kd.R_drewN | apply Kd.R_drew)); exact Kd.R_mono HO_5.out (fun _ hk => hk.1)⟩, ⟨by (with_reducible repeat (first | apply Kd.R_alloc | apply Kd.R_drewN | apply Kd.R_drew)); exact Kd.R_mono HO_50.out (fun _ hk => hk.1)⟩, ⟨by (with_reducible repeat (first | refine blk_drewN ?_ _ | refine blk_drew ?_ | refine blk_alloc ?_ _)); exact BK9.out⟩, ⟨by repeat (first | (with_reducible first | exact HB.out | apply below_alloc | apply pw_below_drewN | apply below_drew1 | refine below_set ?_ GE9.out) | exact HB.out)⟩⟩
                             ·
                              rw [if_neg c65] at H
                              exact absurd H (by simp)
                            ·
                             rw [if_neg c64] at H
                             exact absurd H (by simp)
                          ·
                           replace c55 := Bool.eq_false_iff.mpr c55
                           subst c55
                           have H1 : (some false) = some r := by rw [if_neg (show ¬ (false = true) by decide)] at H; exact H
                           clear H
                           have H := H1
                           clear H1
                           obtain rfl := Option.some.inj H
                           have p12 : 0 ≤ (x91_5 : Int) := of_decide_eq_true (by first | (with_reducible assumption) | assumption)
                           have q12 : x91_5 < (l0.length : Int) := of_decide_eq_true (by first | (with_reducible assumption) | assumption)
                           obtain ⟨ad12, A12_0, c12_0, e12, hx12_0, hl12_0, hi12_0⟩ := at_L2 HR0.out x91_5 p12 q12
                           cases e12
                           replace hx12_0 := (HB.out.cell (World.block_lt_of_cell? w _ hx12_0)).trans hx12_0
                           have HR12_0 := Aside0.mk hi12_0
                           have HC12_0 := Aside0.mk hl12_0
                           clear hi12_0 hl12_0
                           replace p12 := eq_true p12
                           replace q12 := eq_true q12
                           have q74 : ((wrap64 (x52_3 + 1)) : Int) ≤ ((t3.length : Int) : Int) := of_decide_eq_true (by first | (with_reducible assumption) | assumption)
                           obtain ⟨i074, hi074, _, hsz74, _⟩ := info_parts info33
                           have hroom74 : t3.length ≤ co24 := (Kd.R_reads' HO_5.out).2.1
                           have hC74 : Kd.C k33 _ (some ad8) t3.length t3 := (Kd.R_reads' HO_5.out).2.2
                           have ql74 : (x52_3 : Int) ≤ ((wrap64 (x52_3 + 1)) : Int) := of_decide_eq_true (by first | (with_reducible assumption) | assumption)
                           have q074 : (0 : Int) ≤ (x52_3 : Int) := of_decide_eq_true (by first | (with_reducible assumption) | assumption)
                           have hcut74 := cut_mid (P := Try.prog) 24 33 .i64 .i64 Try.underlying24 hi074 2 hsz74 (some ad8) t3.length co24 x52_3 (wrap64 (x52_3 + 1)) q074 ql74 q74 hroom74
                           have hr74 := Kd.C_mid (lo := (x52_3 : Int).toNat) (hi := ((wrap64 (x52_3 + 1)) : Int).toNat) (c := co24) hC74 (by omega) (by omega) hroom74
                           obtain ⟨A74, hA74⟩ : ∃ A1, A1 = (if co24 = (x52_3 : Int).toNat then (some ad8) else ((some ad8) : Option Addr).map (·.add ((x52_3 : Int).toNat * 2))) := ⟨_, rfl⟩
                           obtain ⟨c74, hc74⟩ : ∃ c1, c1 = co24 - (x52_3 : Int).toNat := ⟨_, rfl⟩
                           have hy74 : y13.length = ((wrap64 (x52_3 + 1)) : Int).toNat - (x52_3 : Int).toNat := (by rw [Ny13.out, List.length_drop, List.length_take] <;> omega)
                           rw [show ((t3).take ((wrap64 (x52_3 + 1)) : Int).toNat).drop (x52_3 : Int).toNat = y13 from Ny13.out.symm] at hr74
                           replace hr74 : Kd.C k33 _ A74 y13.length y13 := (by rw [hA74]; exact hr74)
                           rw [← hy74, ← hA74, ← hc74] at hcut74
                           have HR16 := Aside0.mk hr74
                           have HC16 := Aside0.mk (show y13.length ≤ c74 from by rw [hy74, hc74]; exact Nat.sub_le_sub_right (Nat.le_trans (by omega) hroom74) _)
                           clear hr74 hC74 hroom74 hi074 hsz74 hc74
                           have KY74 := Aside0.mk hy74
                           have KA74 := Aside0.mk hA74
                           clear hy74 hA74
                           have KL74 := Aside0.mk (show ((wrap64 (x52_3 + 1)) : Int).toNat ≤ t3.length from by omega)
                           have KM74 := Aside0.mk (show (x52_3 : Int).toNat ≤ ((wrap64 (x52_3 + 1)) : Int).toNat from by omega)
                           replace q74 := eq_true q74
                           go_wp2_with (first | (go_at_call 18; (with_reducible refine (q4z.calls k5 _ _ (rd_L2 l0 x91_5) _ _ y13 t17 _ ?side1 ?side2 ?side3 ?side4 A48.out).mono ?_); (case side1 => repeat (first | exact (Kd.C_below HR12_0.out HB.out) | (with_reducible refine Kd.C_alloc ?_ _) | (with_reducible refine Kd.C_drewN ?_ _) | (with_reducible refine Kd.C_drew ?_))); (case side2 => exact HC12_0.out); (case side3 => repeat (first | exact (by repeat (first | (with_reducible exact HR16.out) | (with_reducible refine Kd.C_alloc ?_ _) | (with_reducible refine Kd.C_drewN ?_ _) | (with_reducible refine Kd.C_drew ?_) | exact HR16.out)) | (with_reducible refine Kd.C_alloc ?_ _) | (with_reducible refine Kd.C_drewN ?_ _) | (with_reducible refine Kd.C_drew ?_))); (case side4 => exact HC16.out); rintro e w75 ⟨v18, rfl, ho0, hb⟩; have n0_ := Aside0.mk (Kd.R_elder' (by (with_reducible repeat (first | apply Kd.R_alloc | apply Kd.R_drewN | apply Kd.R_drew)); exact HO_5.out) (Kd.R_base ho0) hb); have n1_ := Aside0.mk (Kd.R_elder' (by (with_reducible repeat (first | apply Kd.R_alloc | apply Kd.R_drewN | apply Kd.R_drew)); exact HO_50.out) (Kd.R_base ho0) hb); have n2_ := Aside0.mk (Kd.R_lower (Kd.R_newB (Kd.R_new' (Kd.R_new' ho0 (Kd.R_lt (by (with_reducible repeat (first | apply Kd.R_alloc | apply Kd.R_drewN | apply Kd.R_drew)); exact HO_5.out))) (Kd.R_lt (by (with_reducible repeat (first | apply Kd.R_alloc | apply Kd.R_drewN | apply Kd.R_drew)); exact HO_50.out))) (g := gb9) (o := .cells #[.int .u32 ((rd_T33 t3 x52_3).f0), .int .u32 ((rd_T33 t3 x52_3).f1)] 33 (0, 0)) (by (with_reducible repeat (first | refine blk_drewN ?_ _ | refine blk_drew ?_ | refine blk_alloc ?_ _)); exact BK9.out)) (below_size (by repeat (first | (with_reducible first | exact HB.out | apply below_alloc | apply pw_below_drewN | apply below_drew1 | refine below_set ?_ GE9.out) | exact HB.out)))); have n3_ := Aside0.mk (blk_below (g := gb9) (o := .cells #[.int .u32 ((rd_T33 t3 x52_3).f0), .int .u32 ((rd_T33 t3 x52_3).f1)] 33 (0, 0)) (by (with_reducible repeat (first | refine blk_drewN ?_ _ | refine blk_drew ?_ | refine blk_alloc ?_ _)); exact BK9.out) hb); have n4_ := Aside0.mk (Kd.C_below (by repeat (first | (with_reducible exact HR16.out) | (with_reducible refine Kd.C_alloc ?_ _) | (with_reducible refine Kd.C_drewN ?_ _) | (with_reducible refine Kd.C_drew ?_) | exact HR16.out)) hb); have n5_ := Aside0.mk (below_step (by repeat (first | (with_reducible first | exact HB.out | apply below_alloc | apply pw_below_drewN | apply below_drew1 | refine below_set ?_ GE9.out) | exact HB.out)) hb); clear HO_5; clear HO_50; clear BK9; clear HR16; clear HB; have HO_5 := n0_; have HO_50 := n1_; have HO19 := n2_; have BK9 := n3_; have HR16 := n4_; have HB := n5_; clear n0_ n1_ n2_ n3_ n4_ n5_; (try clear hb); (try clear hb2); (try clear hk); (try clear hi); (try clear ho0); have hcz76_0 : w75.cell? ⟨gb9, 0, none⟩ = some (.int .u32 ((rd_T33 t3 x52_3).f0)) := (blk_cell BK9.out 0).trans rfl; have hcz76_1 : w75.cell? ⟨gb9, 1, none⟩ = some (.int .u32 ((rd_T33 t3 x52_3).f1)) := (blk_cell BK9.out 1).trans rfl; have hfz76_0 := blk_frozen BK9.out 0; have hfz76_1 := blk_frozen BK9.out 1) | (go_at_call 16; (with_reducible refine (span_In.calls _ _ (rd_L2 l0 x91_5) ((rd_T33 t3 x52_3).f0) true _ ?side1 ?side2 A49.out).mono ?_); (case side1 => repeat (first | exact (Kd.C_below HR12_0.out HB.out) | (with_reducible refine Kd.C_alloc ?_ _) | (with_reducible refine Kd.C_drewN ?_ _) | (with_reducible refine Kd.C_drew ?_))); (case side2 => exact HC12_0.out); rintro e w77 ⟨rfl, hb⟩; have n0_ := Aside0.mk (Kd.R_below (by (with_reducible repeat (first | apply Kd.R_alloc | apply Kd.R_drewN | apply Kd.R_drew)); exact HO_5.out) hb); have n1_ := Aside0.mk (Kd.R_below (by (with_reducible repeat (first | apply Kd.R_alloc | apply Kd.R_drewN | apply Kd.R_drew)); exact HO_50.out) hb); have n2_ := Aside0.mk (Kd.R_below (by (with_reducible repeat (first | apply Kd.R_alloc | apply Kd.R_drewN | apply Kd.R_drew)); exact HO19.out) hb); have n3_ := Aside0.mk (blk_below (g := gb9) (o := .cells #[.int .u32 ((rd_T33 t3 x52_3).f0), .int .u32 ((rd_T33 t3 x52_3).f1)] 33 (0, 0)) (by (with_reducible repeat (first | refine blk_drewN ?_ _ | refine blk_drew ?_ | refine blk_alloc ?_ _)); exact BK9.out) hb); have n4_ := Aside0.mk (Kd.C_below (by repeat (first | (with_reducible exact HR16.out) | (with_reducible refine Kd.C_alloc ?_ _) | (with_reducible refine Kd.C_drewN ?_ _) | (with_reducible refine Kd.C_drew ?_) | exact HR16.out)) hb); have n5_ := Aside0.mk (below_step (by repeat (first | (with_reducible first | exact HB.out | apply below_alloc | apply pw_below_drewN | apply below_drew1 | refine below_set ?_ GE9.out) | exact HB.out)) hb); clear HO_5; clear HO_50; clear HO19; clear BK9; clear HR16; clear HB; have HO_5 := n0_; have HO_50 := n1_; have HO19 := n2_; have BK9 := n3_; have HR16 := n4_; have HB := n5_; clear n0_ n1_ n2_ n3_ n4_ n5_; (try clear hb); (try clear hb2); (try clear hk); (try clear hi); have q78 : ((wrap64 (x52_3 + 1)) : Int) ≤ ((t3.length : Int) : Int) := of_decide_eq_true (by first | (with_reducible assumption) | assumption); obtain ⟨i078, hi078, _, hsz78, _⟩ := info_parts info33; have hroom78 : t3.length ≤ co24 := (Kd.R_reads' HO_5.out).2.1; have hC78 : Kd.C k33 _ (some ad8) t3.length t3 := (Kd.R_reads' HO_5.out).2.2; have ql78 : (x52_3 : Int) ≤ ((wrap64 (x52_3 + 1)) : Int) := of_decide_eq_true (by first | (with_reducible assumption) | assumption); have q078 : (0 : Int) ≤ (x52_3 : Int) := of_decide_eq_true (by first | (with_reducible assumption) | assumption); have hcut78 := cut_mid (P := Try.prog) 24 33 .i64 .i64 Try.underlying24 hi078 2 hsz78 (some ad8) t3.length co24 x52_3 (wrap64 (x52_3 + 1)) q078 ql78 q78 hroom78; have hr78 := Kd.C_mid (lo := (x52_3 : Int).toNat) (hi := ((wrap64 (x52_3 + 1)) : Int).toNat) (c := co24) hC78 (by omega) (by omega) hroom78; obtain ⟨A78, hA78⟩ : ∃ A1, A1 = (if co24 = (x52_3 : Int).toNat then (some ad8) else ((some ad8) : Option Addr).map (·.add ((x52_3 : Int).toNat * 2))) := ⟨_, rfl⟩; obtain ⟨c78, hc78⟩ : ∃ c1, c1 = co24 - (x52_3 : Int).toNat := ⟨_, rfl⟩; have hy78 : y21.length = ((wrap64 (x52_3 + 1)) : Int).toNat - (x52_3 : Int).toNat := (by rw [Ny21.out, List.length_drop, List.length_take] <;> omega); rw [show ((t3).take ((wrap64 (x52_3 + 1)) : Int).toNat).drop (x52_3 : Int).toNat = y21 from Ny21.out.symm] at hr78; replace hr78 : Kd.C k33 _ A78 y21.length y21 := (by rw [hA78]; exact hr78); rw [← hy78, ← hA78, ← hc78] at hcut78; have HR24 := Aside0.mk hr78; have HC24 := Aside0.mk (show y21.length ≤ c78 from by rw [hy78, hc78]; exact Nat.sub_le_sub_right (Nat.le_trans (by omega) hroom78) _); clear hr78 hC78 hroom78 hi078 hsz78 hc78; have KY78 := Aside0.mk hy78; have KA78 := Aside0.mk hA78; clear hy78 hA78; have KL78 := Aside0.mk (show ((wrap64 (x52_3 + 1)) : Int).toNat ≤ t3.length from by omega); have KM78 := Aside0.mk (show (x52_3 : Int).toNat ≤ ((wrap64 (x52_3 + 1)) : Int).toNat from by omega); replace q78 := eq_true q78; obtain ⟨Ao79, co79, eo79⟩ := Kd.R_slice HO19.out; subst eo79) | (go_at_call 10; (with_reducible refine (q1z.calls k5 _ _ t17 _ _ y13 false _ ?side1 ?side2 ?side3 ?side4 (show q1z.f k5 t17 y13 = some false from (congrArg (q1z.f k5 t17) (Ny13.out.trans Ny21.out.symm)).trans A54.out)).mono ?_); (case side1 => repeat (first | exact (Kd.R_reads' HO19.out).2.2 | (with_reducible refine Kd.C_alloc ?_ _) | (with_reducible refine Kd.C_drewN ?_ _) | (with_reducible refine Kd.C_drew ?_))); (case side2 => exact (Kd.R_reads' HO19.out).2.1); (case side3 => repeat (first | exact (by repeat (first | (with_reducible exact HR16.out) | (with_reducible refine Kd.C_alloc ?_ _) | (with_reducible refine Kd.C_drewN ?_ _) | (with_reducible refine Kd.C_drew ?_) | exact HR16.out)) | (with_reducible refine Kd.C_alloc ?_ _) | (with_reducible refine Kd.C_drewN ?_ _) | (with_reducible refine Kd.C_drew ?_))); (case side4 => exact HC16.out); rintro e w' ⟨rfl, ⟨nd, rfl⟩⟩; (try first | exact ⟨rfl, _, World.drewN_drewN _ _ _⟩ | exact ⟨rfl, _, Eq.trans (World.drewN_drewN _ _ _) (congrArg (World.drewN _) (Nat.add_assoc _ _ _))⟩)))
                           repeat (go_quiet (first | (go_at_call 18; (with_reducible refine (q4z.calls k5 _ _ (rd_L2 l0 x91_5) _ _ y13 t17 _ ?side1 ?side2 ?side3 ?side4 A48.out).mono ?_); (case side1 => repeat (first | exact (Kd.C_below HR12_0.out HB.out) | (with_reducible refine Kd.C_alloc ?_ _) | (with_reducible refine Kd.C_drewN ?_ _) | (with_reducible refine Kd.C_drew ?_))); (case side2 => exact HC12_0.out); (case side3 => repeat (first | exact (by repeat (first | (with_reducible exact HR16.out) | (with_reducible refine Kd.C_alloc ?_ _) | (with_reducible refine Kd.C_drewN ?_ _) | (with_reducible refine Kd.C_drew ?_) | exact HR16.out)) | (with_reducible refine Kd.C_alloc ?_ _) | (with_reducible refine Kd.C_drewN ?_ _) | (with_reducible refine Kd.C_drew ?_))); (case side4 => exact HC16.out); rintro e w75 ⟨v18, rfl, ho0, hb⟩; have n0_ := Aside0.mk (Kd.R_elder' (by (with_reducible repeat (first | apply Kd.R_alloc | apply Kd.R_drewN | apply Kd.R_drew)); exact HO_5.out) (Kd.R_base ho0) hb); have n1_ := Aside0.mk (Kd.R_elder' (by (with_reducible repeat (first | apply Kd.R_alloc | apply Kd.R_drewN | apply Kd.R_drew)); exact HO_50.out) (Kd.R_base ho0) hb); have n2_ := Aside0.mk (Kd.R_lower (Kd.R_newB (Kd.R_new' (Kd.R_new' ho0 (Kd.R_lt (by (with_reducible repeat (first | apply Kd.R_alloc | apply Kd.R_drewN | apply Kd.R_drew)); exact HO_5.out))) (Kd.R_lt (by (with_reducible repeat (first | apply Kd.R_alloc | apply Kd.R_drewN | apply Kd.R_drew)); exact HO_50.out))) (g := gb9) (o := .cells #[.int .u32 ((rd_T33 t3 x52_3).f0), .int .u32 ((rd_T33 t3 x52_3).f1)] 33 (0, 0)) (by (with_reducible repeat (first | refine blk_drewN ?_ _ | refine blk_drew ?_ | refine blk_alloc ?_ _)); exact BK9.out)) (below_size (by repeat (first | (with_reducible first | exact HB.out | apply below_alloc | apply pw_below_drewN | apply below_drew1 | refine below_set ?_ GE9.out) | exact HB.out)))); have n3_ := Aside0.mk (blk_below (g := gb9) (o := .cells #[.int .u32 ((rd_T33 t3 x52_3).f0), .int .u32 ((rd_T33 t3 x52_3).f1)] 33 (0, 0)) (by (with_reducible repeat (first | refine blk_drewN ?_ _ | refine blk_drew ?_ | refine blk_alloc ?_ _)); exact BK9.out) hb); have n4_ := Aside0.mk (Kd.C_below (by repeat (first | (with_reducible exact HR16.out) | (with_reducible refine Kd.C_alloc ?_ _) | (with_reducible refine Kd.C_drewN ?_ _) | (with_reducible refine Kd.C_drew ?_) | exact HR16.out)) hb); have n5_ := Aside0.mk (below_step (by repeat (first | (with_reducible first | exact HB.out | apply below_alloc | apply pw_below_drewN | apply below_drew1 | refine below_set ?_ GE9.out) | exact HB.out)) hb); clear HO_5; clear HO_50; clear BK9; clear HR16; clear HB; have HO_5 := n0_; have HO_50 := n1_; have HO19 := n2_; have BK9 := n3_; have HR16 := n4_; have HB := n5_; clear n0_ n1_ n2_ n3_ n4_ n5_; (try clear hb); (try clear hb2); (try clear hk); (try clear hi); (try clear ho0); have hcz76_0 : w75.cell? ⟨gb9, 0, none⟩ = some (.int .u32 ((rd_T33 t3 x52_3).f0)) := (blk_cell BK9.out 0).trans rfl; have hcz76_1 : w75.cell? ⟨gb9, 1, none⟩ = some (.int .u32 ((rd_T33 t3 x52_3).f1)) := (blk_cell BK9.out 1).trans rfl; have hfz76_0 := blk_frozen BK9.out 0; have hfz76_1 := blk_frozen BK9.out 1) | (go_at_call 16; (with_reducible refine (span_In.calls _ _ (rd_L2 l0 x91_5) ((rd_T33 t3 x52_3).f0) true _ ?side1 ?side2 A49.out).mono ?_); (case side1 => repeat (first | exact (Kd.C_below HR12_0.out HB.out) | (with_reducible refine Kd.C_alloc ?_ _) | (with_reducible refine Kd.C_drewN ?_ _) | (with_reducible refine Kd.C_drew ?_))); (case side2 => exact HC12_0.out); rintro e w77 ⟨rfl, hb⟩; have n0_ := Aside0.mk (Kd.R_below (by (with_reducible repeat (first | apply Kd.R_alloc | apply Kd.R_drewN | apply Kd.R_drew)); exact HO_5.out) hb); have n1_ := Aside0.mk (Kd.R_below (by (with_reducible repeat (first | apply Kd.R_alloc | apply Kd.R_drewN | apply Kd.R_drew)); exact HO_50.out) hb); have n2_ := Aside0.mk (Kd.R_below (by (with_reducible repeat (first | apply Kd.R_alloc | apply Kd.R_drewN | apply Kd.R_drew)); exact HO19.out) hb); have n3_ := Aside0.mk (blk_below (g := gb9) (o := .cells #[.int .u32 ((rd_T33 t3 x52_3).f0), .int .u32 ((rd_T33 t3 x52_3).f1)] 33 (0, 0)) (by (with_reducible repeat (first | refine blk_drewN ?_ _ | refine blk_drew ?_ | refine blk_alloc ?_ _)); exact BK9.out) hb); have n4_ := Aside0.mk (Kd.C_below (by repeat (first | (with_reducible exact HR16.out) | (with_reducible refine Kd.C_alloc ?_ _) | (with_reducible refine Kd.C_drewN ?_ _) | (with_reducible refine Kd.C_drew ?_) | exact HR16.out)) hb); have n5_ := Aside0.mk (below_step (by repeat (first | (with_reducible first | exact HB.out | apply below_alloc | apply pw_below_drewN | apply below_drew1 | refine below_set ?_ GE9.out) | exact HB.out)) hb); clear HO_5; clear HO_50; clear HO19; clear BK9; clear HR16; clear HB; have HO_5 := n0_; have HO_50 := n1_; have HO19 := n2_; have BK9 := n3_; have HR16 := n4_; have HB := n5_; clear n0_ n1_ n2_ n3_ n4_ n5_; (try clear hb); (try clear hb2); (try clear hk); (try clear hi); have q78 : ((wrap64 (x52_3 + 1)) : Int) ≤ ((t3.length : Int) : Int) := of_decide_eq_true (by first | (with_reducible assumption) | assumption); obtain ⟨i078, hi078, _, hsz78, _⟩ := info_parts info33; have hroom78 : t3.length ≤ co24 := (Kd.R_reads' HO_5.out).2.1; have hC78 : Kd.C k33 _ (some ad8) t3.length t3 := (Kd.R_reads' HO_5.out).2.2; have ql78 : (x52_3 : Int) ≤ ((wrap64 (x52_3 + 1)) : Int) := of_decide_eq_true (by first | (with_reducible assumption) | assumption); have q078 : (0 : Int) ≤ (x52_3 : Int) := of_decide_eq_true (by first | (with_reducible assumption) | assumption); have hcut78 := cut_mid (P := Try.prog) 24 33 .i64 .i64 Try.underlying24 hi078 2 hsz78 (some ad8) t3.length co24 x52_3 (wrap64 (x52_3 + 1)) q078 ql78 q78 hroom78; have hr78 := Kd.C_mid (lo := (x52_3 : Int).toNat) (hi := ((wrap64 (x52_3 + 1)) : Int).toNat) (c := co24) hC78 (by omega) (by omega) hroom78; obtain ⟨A78, hA78⟩ : ∃ A1, A1 = (if co24 = (x52_3 : Int).toNat then (some ad8) else ((some ad8) : Option Addr).map (·.add ((x52_3 : Int).toNat * 2))) := ⟨_, rfl⟩; obtain ⟨c78, hc78⟩ : ∃ c1, c1 = co24 - (x52_3 : Int).toNat := ⟨_, rfl⟩; have hy78 : y21.length = ((wrap64 (x52_3 + 1)) : Int).toNat - (x52_3 : Int).toNat := (by rw [Ny21.out, List.length_drop, List.length_take] <;> omega); rw [show ((t3).take ((wrap64 (x52_3 + 1)) : Int).toNat).drop (x52_3 : Int).toNat = y21 from Ny21.out.symm] at hr78; replace hr78 : Kd.C k33 _ A78 y21.length y21 := (by rw [hA78]; exact hr78); rw [← hy78, ← hA78, ← hc78] at hcut78; have HR24 := Aside0.mk hr78; have HC24 := Aside0.mk (show y21.length ≤ c78 from by rw [hy78, hc78]; exact Nat.sub_le_sub_right (Nat.le_trans (by omega) hroom78) _); clear hr78 hC78 hroom78 hi078 hsz78 hc78; have KY78 := Aside0.mk hy78; have KA78 := Aside0.mk hA78; clear hy78 hA78; have KL78 := Aside0.mk (show ((wrap64 (x52_3 + 1)) : Int).toNat ≤ t3.length from by omega); have KM78 := Aside0.mk (show (x52_3 : Int).toNat ≤ ((wrap64 (x52_3 + 1)) : Int).toNat from by omega); replace q78 := eq_true q78; obtain ⟨Ao79, co79, eo79⟩ := Kd.R_slice HO19.out; subst eo79) | (go_at_call 10; (with_reducible refine (q1z.calls k5 _ _ t17 _ _ y13 false _ ?side1 ?side2 ?side3 ?side4 (show q1z.f k5 t17 y13 = some false from (congrArg (q1z.f k5 t17) (Ny13.out.trans Ny21.out.symm)).trans A54.out)).mono ?_); (case side1 => repeat (first | exact (Kd.R_reads' HO19.out).2.2 | (with_reducible refine Kd.C_alloc ?_ _) | (with_reducible refine Kd.C_drewN ?_ _) | (with_reducible refine Kd.C_drew ?_))); (case side2 => exact (Kd.R_reads' HO19.out).2.1); (case side3 => repeat (first | exact (by repeat (first | (with_reducible exact HR16.out) | (with_reducible refine Kd.C_alloc ?_ _) | (with_reducible refine Kd.C_drewN ?_ _) | (with_reducible refine Kd.C_drew ?_) | exact HR16.out)) | (with_reducible refine Kd.C_alloc ?_ _) | (with_reducible refine Kd.C_drewN ?_ _) | (with_reducible refine Kd.C_drew ?_))); (case side4 => exact HC16.out); rintro e w' ⟨rfl, ⟨nd, rfl⟩⟩; (try first | exact ⟨rfl, _, World.drewN_drewN _ _ _⟩ | exact ⟨rfl, _, Eq.trans (World.drewN_drewN _ _ _) (congrArg (World.drewN _) (Nat.add_assoc _ _ _))⟩))); try go_wp2_with (first | (go_at_call 18; (with_reducible refine (q4z.calls k5 _ _ (rd_L2 l0 x91_5) _ _ y13 t17 _ ?side1 ?side2 ?side3 ?side4 A48.out).mono ?_); (case side1 => repeat (first | exact (Kd.C_below HR12_0.out HB.out) | (with_reducible refine Kd.C_alloc ?_ _) | (with_reducible refine Kd.C_drewN ?_ _) | (with_reducible refine Kd.C_drew ?_))); (case side2 => exact HC12_0.out); (case side3 => repeat (first | exact (by repeat (first | (with_reducible exact HR16.out) | (with_reducible refine Kd.C_alloc ?_ _) | (with_reducible refine Kd.C_drewN ?_ _) | (with_reducible refine Kd.C_drew ?_) | exact HR16.out)) | (with_reducible refine Kd.C_alloc ?_ _) | (with_reducible refine Kd.C_drewN ?_ _) | (with_reducible refine Kd.C_drew ?_))); (case side4 => exact HC16.out); rintro e w75 ⟨v18, rfl, ho0, hb⟩; have n0_ := Aside0.mk (Kd.R_elder' (by (with_reducible repeat (first | apply Kd.R_alloc | apply Kd.R_drewN | apply Kd.R_drew)); exact HO_5.out) (Kd.R_base ho0) hb); have n1_ := Aside0.mk (Kd.R_elder' (by (with_reducible repeat (first | apply Kd.R_alloc | apply Kd.R_drewN | apply Kd.R_drew)); exact HO_50.out) (Kd.R_base ho0) hb); have n2_ := Aside0.mk (Kd.R_lower (Kd.R_newB (Kd.R_new' (Kd.R_new' ho0 (Kd.R_lt (by (with_reducible repeat (first | apply Kd.R_alloc | apply Kd.R_drewN | apply Kd.R_drew)); exact HO_5.out))) (Kd.R_lt (by (with_reducible repeat (first | apply Kd.R_alloc | apply Kd.R_drewN | apply Kd.R_drew)); exact HO_50.out))) (g := gb9) (o := .cells #[.int .u32 ((rd_T33 t3 x52_3).f0), .int .u32 ((rd_T33 t3 x52_3).f1)] 33 (0, 0)) (by (with_reducible repeat (first | refine blk_drewN ?_ _ | refine blk_drew ?_ | refine blk_alloc ?_ _)); exact BK9.out)) (below_size (by repeat (first | (with_reducible first | exact HB.out | apply below_alloc | apply pw_below_drewN | apply below_drew1 | refine below_set ?_ GE9.out) | exact HB.out)))); have n3_ := Aside0.mk (blk_below (g := gb9) (o := .cells #[.int .u32 ((rd_T33 t3 x52_3).f0), .int .u32 ((rd_T33 t3 x52_3).f1)] 33 (0, 0)) (by (with_reducible repeat (first | refine blk_drewN ?_ _ | refine blk_drew ?_ | refine blk_alloc ?_ _)); exact BK9.out) hb); have n4_ := Aside0.mk (Kd.C_below (by repeat (first | (with_reducible exact HR16.out) | (with_reducible refine Kd.C_alloc ?_ _) | (with_reducible refine Kd.C_drewN ?_ _) | (with_reducible refine Kd.C_drew ?_) | exact HR16.out)) hb); have n5_ := Aside0.mk (below_step (by repeat (first | (with_reducible first | exact HB.out | apply below_alloc | apply pw_below_drewN | apply below_drew1 | refine below_set ?_ GE9.out) | exact HB.out)) hb); clear HO_5; clear HO_50; clear BK9; clear HR16; clear HB; have HO_5 := n0_; have HO_50 := n1_; have HO19 := n2_; have BK9 := n3_; have HR16 := n4_; have HB := n5_; clear n0_ n1_ n2_ n3_ n4_ n5_; (try clear hb); (try clear hb2); (try clear hk); (try clear hi); (try clear ho0); have hcz76_0 : w75.cell? ⟨gb9, 0, none⟩ = some (.int .u32 ((rd_T33 t3 x52_3).f0)) := (blk_cell BK9.out 0).trans rfl; have hcz76_1 : w75.cell? ⟨gb9, 1, none⟩ = some (.int .u32 ((rd_T33 t3 x52_3).f1)) := (blk_cell BK9.out 1).trans rfl; have hfz76_0 := blk_frozen BK9.out 0; have hfz76_1 := blk_frozen BK9.out 1) | (go_at_call 16; (with_reducible refine (span_In.calls _ _ (rd_L2 l0 x91_5) ((rd_T33 t3 x52_3).f0) true _ ?side1 ?side2 A49.out).mono ?_); (case side1 => repeat (first | exact (Kd.C_below HR12_0.out HB.out) | (with_reducible refine Kd.C_alloc ?_ _) | (with_reducible refine Kd.C_drewN ?_ _) | (with_reducible refine Kd.C_drew ?_))); (case side2 => exact HC12_0.out); rintro e w77 ⟨rfl, hb⟩; have n0_ := Aside0.mk (Kd.R_below (by (with_reducible repeat (first | apply Kd.R_alloc | apply Kd.R_drewN | apply Kd.R_drew)); exact HO_5.out) hb); have n1_ := Aside0.mk (Kd.R_below (by (with_reducible repeat (first | apply Kd.R_alloc | apply Kd.R_drewN | apply Kd.R_drew)); exact HO_50.out) hb); have n2_ := Aside0.mk (Kd.R_below (by (with_reducible repeat (first | apply Kd.R_alloc | apply Kd.R_drewN | apply Kd.R_drew)); exact HO19.out) hb); have n3_ := Aside0.mk (blk_below (g := gb9) (o := .cells #[.int .u32 ((rd_T33 t3 x52_3).f0), .int .u32 ((rd_T33 t3 x52_3).f1)] 33 (0, 0)) (by (with_reducible repeat (first | refine blk_drewN ?_ _ | refine blk_drew ?_ | refine blk_alloc ?_ _)); exact BK9.out) hb); have n4_ := Aside0.mk (Kd.C_below (by repeat (first | (with_reducible exact HR16.out) | (with_reducible refine Kd.C_alloc ?_ _) | (with_reducible refine Kd.C_drewN ?_ _) | (with_reducible refine Kd.C_drew ?_) | exact HR16.out)) hb); have n5_ := Aside0.mk (below_step (by repeat (first | (with_reducible first | exact HB.out | apply below_alloc | apply pw_below_drewN | apply below_drew1 | refine below_set ?_ GE9.out) | exact HB.out)) hb); clear HO_5; clear HO_50; clear HO19; clear BK9; clear HR16; clear HB; have HO_5 := n0_; have HO_50 := n1_; have HO19 := n2_; have BK9 := n3_; have HR16 := n4_; have HB := n5_; clear n0_ n1_ n2_ n3_ n4_ n5_; (try clear hb); (try clear hb2); (try clear hk); (try clear hi); have q78 : ((wrap64 (x52_3 + 1)) : Int) ≤ ((t3.length : Int) : Int) := of_decide_eq_true (by first | (with_reducible assumption) | assumption); obtain ⟨i078, hi078, _, hsz78, _⟩ := info_parts info33; have hroom78 : t3.length ≤ co24 := (Kd.R_reads' HO_5.out).2.1; have hC78 : Kd.C k33 _ (some ad8) t3.length t3 := (Kd.R_reads' HO_5.out).2.2; have ql78 : (x52_3 : Int) ≤ ((wrap64 (x52_3 + 1)) : Int) := of_decide_eq_true (by first | (with_reducible assumption) | assumption); have q078 : (0 : Int) ≤ (x52_3 : Int) := of_decide_eq_true (by first | (with_reducible assumption) | assumption); have hcut78 := cut_mid (P := Try.prog) 24 33 .i64 .i64 Try.underlying24 hi078 2 hsz78 (some ad8) t3.length co24 x52_3 (wrap64 (x52_3 + 1)) q078 ql78 q78 hroom78; have hr78 := Kd.C_mid (lo := (x52_3 : Int).toNat) (hi := ((wrap64 (x52_3 + 1)) : Int).toNat) (c := co24) hC78 (by omega) (by omega) hroom78; obtain ⟨A78, hA78⟩ : ∃ A1, A1 = (if co24 = (x52_3 : Int).toNat then (some ad8) else ((some ad8) : Option Addr).map (·.add ((x52_3 : Int).toNat * 2))) := ⟨_, rfl⟩; obtain ⟨c78, hc78⟩ : ∃ c1, c1 = co24 - (x52_3 : Int).toNat := ⟨_, rfl⟩; have hy78 : y21.length = ((wrap64 (x52_3 + 1)) : Int).toNat - (x52_3 : Int).toNat := (by rw [Ny21.out, List.length_drop, List.length_take] <;> omega); rw [show ((t3).take ((wrap64 (x52_3 + 1)) : Int).toNat).drop (x52_3 : Int).toNat = y21 from Ny21.out.symm] at hr78; replace hr78 : Kd.C k33 _ A78 y21.length y21 := (by rw [hA78]; exact hr78); rw [← hy78, ← hA78, ← hc78] at hcut78; have HR24 := Aside0.mk hr78; have HC24 := Aside0.mk (show y21.length ≤ c78 from by rw [hy78, hc78]; exact Nat.sub_le_sub_right (Nat.le_trans (by omega) hroom78) _); clear hr78 hC78 hroom78 hi078 hsz78 hc78; have KY78 := Aside0.mk hy78; have KA78 := Aside0.mk hA78; clear hy78 hA78; have KL78 := Aside0.mk (show ((wrap64 (x52_3 + 1)) : Int).toNat ≤ t3.length from by omega); have KM78 := Aside0.mk (show (x52_3 : Int).toNat ≤ ((wrap64 (x52_3 + 1)) : Int).toNat from by omega); replace q78 := eq_true q78; obtain ⟨Ao79, co79, eo79⟩ := Kd.R_slice HO19.out; subst eo79) | (go_at_call 10; (with_reducible refine (q1z.calls k5 _ _ t17 _ _ y13 false _ ?side1 ?side2 ?side3 ?side4 (show q1z.f k5 t17 y13 = some false from (congrArg (q1z.f k5 t17) (Ny13.out.trans Ny21.out.symm)).trans A54.out)).mono ?_); (case side1 => repeat (first | exact (Kd.R_reads' HO19.out).2.2 | (with_reducible refine Kd.C_alloc ?_ _) | (with_reducible refine Kd.C_drewN ?_ _) | (with_reducible refine Kd.C_drew ?_))); (case side2 => exact (Kd.R_reads' HO19.out).2.1); (case side3 => repeat (first | exact (by repeat (first | (with_reducible exact HR16.out) | (with_reducible refine Kd.C_alloc ?_ _) | (with_reducible refine Kd.C_drewN ?_ _) | (with_reducible refine Kd.C_drew ?_) | exact HR16.out)) | (with_reducible refine Kd.C_alloc ?_ _) | (with_reducible refine Kd.C_drewN ?_ _) | (with_reducible refine Kd.C_drew ?_))); (case side4 => exact HC16.out); rintro e w' ⟨rfl, ⟨nd, rfl⟩⟩; (try first | exact ⟨rfl, _, World.drewN_drewN _ _ _⟩ | exact ⟨rfl, _, Eq.trans (World.drewN_drewN _ _ _) (congrArg (World.drewN _) (Nat.add_assoc _ _ _))⟩))))
                           go_ret
                           exact ⟨by first | rfl | (simp [errW_none, errW_some] <;> rfl) | (simp [*, errW_none, errW_some] <;> rfl), by repeat (first | (with_reducible first | exact HB.out | apply below_alloc | apply pw_below_drewN | apply below_drew1 | refine below_set ?_ GE9.out) | exact HB.out)⟩
                         ·
                          replace c50 := Bool.eq_false_iff.mpr c50
                          subst c50
                          have H1 : (if (t17.length : Int) = 0 then (if x8_5 = true then (q7z.l2 k5 l0 t3 x52_3 true t3 (t3.length : Int) x52_3 l0 (l0.length : Int) (wrap64 (x91_5 + 1)) ((rd_T33 t3 x52_3).f0) ((rd_T33 t3 x52_3).f1)) else (if 0 ≤ (wrap64 (x52_3 - 1)) then (if (wrap64 (x52_3 - 1)) < (t3.length : Int) then ((span_In.f (rd_L2 l0 x91_5) ((rd_T33 t3 (wrap64 (x52_3 - 1))).f0)).bind fun t29 => (q7z.l2 k5 l0 t3 x52_3 (false != t29) t3 (t3.length : Int) x52_3 l0 (l0.length : Int) (wrap64 (x91_5 + 1)) ((rd_T33 t3 x52_3).f0) ((rd_T33 t3 x52_3).f1))) else (none)) else (none))) else (some false)) = some r := by rw [if_neg (show ¬ (false = true) by decide)] at H; exact H
                          clear H
                          have H := H1
                          clear H1
                          by_cases c80 : (t17.length : Int) = 0
                          ·
                           rw [if_pos c80] at H
                           have c80b0 : ((t17.length : Int) == 0) = true := beq_iff_eq.mpr c80
                           have c80b1 : ((t17.length : Int) != 0) = false := bne_eq_false_iff_eq.mpr c80
                           clear c80
                           by_cases c81 : x8_5 = true
                           ·
                            subst c81
                            have H1 : (q7z.l2 k5 l0 t3 x52_3 true t3 (t3.length : Int) x52_3 l0 (l0.length : Int) (wrap64 (x91_5 + 1)) ((rd_T33 t3 x52_3).f0) ((rd_T33 t3 x52_3).f1)) = some r := by rw [if_pos rfl] at H; exact H
                            clear H
                            have H := H1
                            clear H1
                            have H' := Aside0.mk H
                            clear H
                            have p12 : 0 ≤ (x91_5 : Int) := of_decide_eq_true (by first | (with_reducible assumption) | assumption)
                            have q12 : x91_5 < (l0.length : Int) := of_decide_eq_true (by first | (with_reducible assumption) | assumption)
                            obtain ⟨ad12, A12_0, c12_0, e12, hx12_0, hl12_0, hi12_0⟩ := at_L2 HR0.out x91_5 p12 q12
                            cases e12
                            replace hx12_0 := (HB.out.cell (World.block_lt_of_cell? w _ hx12_0)).trans hx12_0
                            have HR12_0 := Aside0.mk hi12_0
                            have HC12_0 := Aside0.mk hl12_0
                            clear hi12_0 hl12_0
                            replace p12 := eq_true p12
                            replace q12 := eq_true q12
                            have q82 : ((wrap64 (x52_3 + 1)) : Int) ≤ ((t3.length : Int) : Int) := of_decide_eq_true (by first | (with_reducible assumption) | assumption)
                            obtain ⟨i082, hi082, _, hsz82, _⟩ := info_parts info33
                            have hroom82 : t3.length ≤ co24 := (Kd.R_reads' HO_5.out).2.1
                            have hC82 : Kd.C k33 _ (some ad8) t3.length t3 := (Kd.R_reads' HO_5.out).2.2
                            have ql82 : (x52_3 : Int) ≤ ((wrap64 (x52_3 + 1)) : Int) := of_decide_eq_true (by first | (with_reducible assumption) | assumption)
                            have q082 : (0 : Int) ≤ (x52_3 : Int) := of_decide_eq_true (by first | (with_reducible assumption) | assumption)
                            have hcut82 := cut_mid (P := Try.prog) 24 33 .i64 .i64 Try.underlying24 hi082 2 hsz82 (some ad8) t3.length co24 x52_3 (wrap64 (x52_3 + 1)) q082 ql82 q82 hroom82
                            have hr82 := Kd.C_mid (lo := (x52_3 : Int).toNat) (hi := ((wrap64 (x52_3 + 1)) : Int).toNat) (c := co24) hC82 (by omega) (by omega) hroom82
                            obtain ⟨A82, hA82⟩ : ∃ A1, A1 = (if co24 = (x52_3 : Int).toNat then (some ad8) else ((some ad8) : Option Addr).map (·.add ((x52_3 : Int).toNat * 2))) := ⟨_, rfl⟩
                            obtain ⟨c82, hc82⟩ : ∃ c1, c1 = co24 - (x52_3 : Int).toNat := ⟨_, rfl⟩
                            have hy82 : y13.length = ((wrap64 (x52_3 + 1)) : Int).toNat - (x52_3 : Int).toNat := (by rw [Ny13.out, List.length_drop, List.length_take] <;> omega)
                            rw [show ((t3).take ((wrap64 (x52_3 + 1)) : Int).toNat).drop (x52_3 : Int).toNat = y13 from Ny13.out.symm] at hr82
                            replace hr82 : Kd.C k33 _ A82 y13.length y13 := (by rw [hA82]; exact hr82)
                            rw [← hy82, ← hA82, ← hc82] at hcut82
                            have HR16 := Aside0.mk hr82
                            have HC16 := Aside0.mk (show y13.length ≤ c82 from by rw [hy82, hc82]; exact Nat.sub_le_sub_right (Nat.le_trans (by omega) hroom82) _)
                            clear hr82 hC82 hroom82 hi082 hsz82 hc82
                            have KY82 := Aside0.mk hy82
                            have KA82 := Aside0.mk hA82
                            clear hy82 hA82
                            have KL82 := Aside0.mk (show ((wrap64 (x52_3 + 1)) : Int).toNat ≤ t3.length from by omega)
                            have KM82 := Aside0.mk (show (x52_3 : Int).toNat ≤ ((wrap64 (x52_3 + 1)) : Int).toNat from by omega)
                            replace q82 := eq_true q82
                            go_wp2_with (first | (go_at_call 18; (with_reducible refine (q4z.calls k5 _ _ (rd_L2 l0 x91_5) _ _ y13 t17 _ ?side1 ?side2 ?side3 ?side4 A48.out).mono ?_); (case side1 => repeat (first | exact (Kd.C_below HR12_0.out HB.out) | (with_reducible refine Kd.C_alloc ?_ _) | (with_reducible refine Kd.C_drewN ?_ _) | (with_reducible refine Kd.C_drew ?_))); (case side2 => exact HC12_0.out); (case side3 => repeat (first | exact (by repeat (first | (with_reducible exact HR16.out) | (with_reducible refine Kd.C_alloc ?_ _) | (with_reducible refine Kd.C_drewN ?_ _) | (with_reducible refine Kd.C_drew ?_) | exact HR16.out)) | (with_reducible refine Kd.C_alloc ?_ _) | (with_reducible refine Kd.C_drewN ?_ _) | (with_reducible refine Kd.C_drew ?_))); (case side4 => exact HC16.out); rintro e w83 ⟨v18, rfl, ho0, hb⟩; have n0_ := Aside0.mk (Kd.R_elder' (by (with_reducible repeat (first | apply Kd.R_alloc | apply Kd.R_drewN | apply Kd.R_drew)); exact HO_5.out) (Kd.R_base ho0) hb); have n1_ := Aside0.mk (Kd.R_elder' (by (with_reducible repeat (first | apply Kd.R_alloc | apply Kd.R_drewN | apply Kd.R_drew)); exact HO_50.out) (Kd.R_base ho0) hb); have n2_ := Aside0.mk (Kd.R_lower (Kd.R_newB (Kd.R_new' (Kd.R_new' ho0 (Kd.R_lt (by (with_reducible repeat (first | apply Kd.R_alloc | apply Kd.R_drewN | apply Kd.R_drew)); exact HO_5.out))) (Kd.R_lt (by (with_reducible repeat (first | apply Kd.R_alloc | apply Kd.R_drewN | apply Kd.R_drew)); exact HO_50.out))) (g := gb9) (o := .cells #[.int .u32 ((rd_T33 t3 x52_3).f0), .int .u32 ((rd_T33 t3 x52_3).f1)] 33 (0, 0)) (by (with_reducible repeat (first | refine blk_drewN ?_ _ | refine blk_drew ?_ | refine blk_alloc ?_ _)); exact BK9.out)) (below_size (by repeat (first | (with_reducible first | exact HB.out | apply below_alloc | apply pw_below_drewN | apply below_drew1 | refine below_set ?_ GE9.out) | exact HB.out)))); have n3_ := Aside0.mk (blk_below (g := gb9) (o := .cells #[.int .u32 ((rd_T33 t3 x52_3).f0), .int .u32 ((rd_T33 t3 x52_3).f1)] 33 (0, 0)) (by (with_reducible repeat (first | refine blk_drewN ?_ _ | refine blk_drew ?_ | refine blk_alloc ?_ _)); exact BK9.out) hb); have n4_ := Aside0.mk (Kd.C_below (by repeat (first | (with_reducible exact HR16.out) | (with_reducible refine Kd.C_alloc ?_ _) | (with_reducible refine Kd.C_drewN ?_ _) | (with_reducible refine Kd.C_drew ?_) | exact HR16.out)) hb); have n5_ := Aside0.mk (below_step (by repeat (first | (with_reducible first | exact HB.out | apply below_alloc | apply pw_below_drewN | apply below_drew1 | refine below_set ?_ GE9.out) | exact HB.out)) hb); clear HO_5; clear HO_50; clear BK9; clear HR16; clear HB; have HO_5 := n0_; have HO_50 := n1_; have HO19 := n2_; have BK9 := n3_; have HR16 := n4_; have HB := n5_; clear n0_ n1_ n2_ n3_ n4_ n5_; (try clear hb); (try clear hb2); (try clear hk); (try clear hi); (try clear ho0); have hcz84_0 : w83.cell? ⟨gb9, 0, none⟩ = some (.int .u32 ((rd_T33 t3 x52_3).f0)) := (blk_cell BK9.out 0).trans rfl; have hcz84_1 : w83.cell? ⟨gb9, 1, none⟩ = some (.int .u32 ((rd_T33 t3 x52_3).f1)) := (blk_cell BK9.out 1).trans rfl; have hfz84_0 := blk_frozen BK9.out 0; have hfz84_1 := blk_frozen BK9.out 1) | (go_at_call 16; (with_reducible refine (span_In.calls _ _ (rd_L2 l0 x91_5) ((rd_T33 t3 x52_3).f0) false _ ?side1 ?side2 A49.out).mono ?_); (case side1 => repeat (first | exact (Kd.C_below HR12_0.out HB.out) | (with_reducible refine Kd.C_alloc ?_ _) | (with_reducible refine Kd.C_drewN ?_ _) | (with_reducible refine Kd.C_drew ?_))); (case side2 => exact HC12_0.out); rintro e w85 ⟨rfl, hb⟩; have n0_ := Aside0.mk (Kd.R_below (by (with_reducible repeat (first | apply Kd.R_alloc | apply Kd.R_drewN | apply Kd.R_drew)); exact HO_5.out) hb); have n1_ := Aside0.mk (Kd.R_below (by (with_reducible repeat (first | apply Kd.R_alloc | apply Kd.R_drewN | apply Kd.R_drew)); exact HO_50.out) hb); have n2_ := Aside0.mk (Kd.R_below (by (with_reducible repeat (first | apply Kd.R_alloc | apply Kd.R_drewN | apply Kd.R_drew)); exact HO19.out) hb); have n3_ := Aside0.mk (blk_below (g := gb9) (o := .cells #[.int .u32 ((rd_T33 t3 x52_3).f0), .int .u32 ((rd_T33 t3 x52_3).f1)] 33 (0, 0)) (by (with_reducible repeat (first | refine blk_drewN ?_ _ | refine blk_drew ?_ | refine blk_alloc ?_ _)); exact BK9.out) hb); have n4_ := Aside0.mk (Kd.C_below (by repeat (first | (with_reducible exact HR16.out) | (with_reducible refine Kd.C_alloc ?_ _) | (with_reducible refine Kd.C_drewN ?_ _) | (with_reducible refine Kd.C_drew ?_) | exact HR16.out)) hb); have n5_ := Aside0.mk (below_step (by repeat (first | (with_reducible first | exact HB.out | apply below_alloc | apply pw_below_drewN | apply below_drew1 | refine below_set ?_ GE9.out) | exact HB.out)) hb); clear HO_5; clear HO_50; clear HO19; clear BK9; clear HR16; clear HB; have HO_5 := n0_; have HO_50 := n1_; have HO19 := n2_; have BK9 := n3_; have HR16 := n4_; have HB := n5_; clear n0_ n1_ n2_ n3_ n4_ n5_; (try clear hb); (try clear hb2); (try clear hk); (try clear hi); obtain ⟨Ao86, co86, eo86⟩ := Kd.R_slice HO19.out; subst eo86))
                            repeat (go_quiet (first | (go_at_call 18; (with_reducible refine (q4z.calls k5 _ _ (rd_L2 l0 x91_5) _ _ y13 t17 _ ?side1 ?side2 ?side3 ?side4 A48.out).mono ?_); (case side1 => repeat (first | exact (Kd.C_below HR12_0.out HB.out) | (with_reducible refine Kd.C_alloc ?_ _) | (with_reducible refine Kd.C_drewN ?_ _) | (with_reducible refine Kd.C_drew ?_))); (case side2 => exact HC12_0.out); (case side3 => repeat (first | exact (by repeat (first | (with_reducible exact HR16.out) | (with_reducible refine Kd.C_alloc ?_ _) | (with_reducible refine Kd.C_drewN ?_ _) | (with_reducible refine Kd.C_drew ?_) | exact HR16.out)) | (with_reducible refine Kd.C_alloc ?_ _) | (with_reducible refine Kd.C_drewN ?_ _) | (with_reducible refine Kd.C_drew ?_))); (case side4 => exact HC16.out); rintro e w83 ⟨v18, rfl, ho0, hb⟩; have n0_ := Aside0.mk (Kd.R_elder' (by (with_reducible repeat (first | apply Kd.R_alloc | apply Kd.R_drewN | apply Kd.R_drew)); exact HO_5.out) (Kd.R_base ho0) hb); have n1_ := Aside0.mk (Kd.R_elder' (by (with_reducible repeat (first | apply Kd.R_alloc | apply Kd.R_drewN | apply Kd.R_drew)); exact HO_50.out) (Kd.R_base ho0) hb); have n2_ := Aside0.mk (Kd.R_lower (Kd.R_newB (Kd.R_new' (Kd.R_new' ho0 (Kd.R_lt (by (with_reducible repeat (first | apply Kd.R_alloc | apply Kd.R_drewN | apply Kd.R_drew)); exact HO_5.out))) (Kd.R_lt (by (with_reducible repeat (first | apply Kd.R_alloc | apply Kd.R_drewN | apply Kd.R_drew)); exact HO_50.out))) (g := gb9) (o := .cells #[.int .u32 ((rd_T33 t3 x52_3).f0), .int .u32 ((rd_T33 t3 x52_3).f1)] 33 (0, 0)) (by (with_reducible repeat (first | refine blk_drewN ?_ _ | refine blk_drew ?_ | refine blk_alloc ?_ _)); exact BK9.out)) (below_size (by repeat (first | (with_reducible first | exact HB.out | apply below_alloc | apply pw_below_drewN | apply below_drew1 | refine below_set ?_ GE9.out) | exact HB.out)))); have n3_ := Aside0.mk (blk_below (g := gb9) (o := .cells #[.int .u32 ((rd_T33 t3 x52_3).f0), .int .u32 ((rd_T33 t3 x52_3).f1)] 33 (0, 0)) (by (with_reducible repeat (first | refine blk_drewN ?_ _ | refine blk_drew ?_ | refine blk_alloc ?_ _)); exact BK9.out) hb); have n4_ := Aside0.mk (Kd.C_below (by repeat (first | (with_reducible exact HR16.out) | (with_reducible refine Kd.C_alloc ?_ _) | (with_reducible refine Kd.C_drewN ?_ _) | (with_reducible refine Kd.C_drew ?_) | exact HR16.out)) hb); have n5_ := Aside0.mk (below_step (by repeat (first | (with_reducible first | exact HB.out | apply below_alloc | apply pw_below_drewN | apply below_drew1 | refine below_set ?_ GE9.out) | exact HB.out)) hb); clear HO_5; clear HO_50; clear BK9; clear HR16; clear HB; have HO_5 := n0_; have HO_50 := n1_; have HO19 := n2_; have BK9 := n3_; have HR16 := n4_; have HB := n5_; clear n0_ n1_ n2_ n3_ n4_ n5_; (try clear hb); (try clear hb2); (try clear hk); (try clear hi); (try clear ho0); have hcz84_0 : w83.cell? ⟨gb9, 0, none⟩ = some (.int .u32 ((rd_T33 t3 x52_3).f0)) := (blk_cell BK9.out 0).trans rfl; have hcz84_1 : w83.cell? ⟨gb9, 1, none⟩ = some (.int .u32 ((rd_T33 t3 x52_3).f1)) := (blk_cell BK9.out 1).trans rfl; have hfz84_0 := blk_frozen BK9.out 0; have hfz84_1 := blk_frozen BK9.out 1) | (go_at_call 16; (with_reducible refine (span_In.calls _ _ (rd_L2 l0 x91_5) ((rd_T33 t3 x52_3).f0) false _ ?side1 ?side2 A49.out).mono ?_); (case side1 => repeat (first | exact (Kd.C_below HR12_0.out HB.out) | (with_reducible refine Kd.C_alloc ?_ _) | (with_reducible refine Kd.C_drewN ?_ _) | (with_reducible refine Kd.C_drew ?_))); (case side2 => exact HC12_0.out); rintro e w85 ⟨rfl, hb⟩; have n0_ := Aside0.mk (Kd.R_below (by (with_reducible repeat (first | apply Kd.R_alloc | apply Kd.R_drewN | apply Kd.R_drew)); exact HO_5.out) hb); have n1_ := Aside0.mk (Kd.R_below (by (with_reducible repeat (first | apply Kd.R_alloc | apply Kd.R_drewN | apply Kd.R_drew)); exact HO_50.out) hb); have n2_ := Aside0.mk (Kd.R_below (by (with_reducible repeat (first | apply Kd.R_alloc | apply Kd.R_drewN | apply Kd.R_drew)); exact HO19.out) hb); have n3_ := Aside0.mk (blk_below (g := gb9) (o := .cells #[.int .u32 ((rd_T33 t3 x52_3).f0), .int .u32 ((rd_T33 t3 x52_3).f1)] 33 (0, 0)) (by (with_reducible repeat (first | refine blk_drewN ?_ _ | refine blk_drew ?_ | refine blk_alloc ?_ _)); exact BK9.out) hb); have n4_ := Aside0.mk (Kd.C_below (by repeat (first | (with_reducible exact HR16.out) | (with_reducible refine Kd.C_alloc ?_ _) | (with_reducible refine Kd.C_drewN ?_ _) | (with_reducible refine Kd.C_drew ?_) | exact HR16.out)) hb); have n5_ := Aside0.mk (below_step (by repeat (first | (with_reducible first | exact HB.out | apply below_alloc | apply pw_below_drewN | apply below_drew1 | refine below_set ?_ GE9.out) | exact HB.out)) hb); clear HO_5; clear HO_50; clear HO19; clear BK9; clear HR16; clear HB; have HO_5 := n0_; have HO_50 := n1_; have HO19 := n2_; have BK9 := n3_; have HR16 := n4_; have HB := n5_; clear n0_ n1_ n2_ n3_ n4_ n5_; (try clear hb); (try clear hb2); (try clear hk); (try clear hi); obtain ⟨Ao86, co86, eo86⟩ := Kd.R_slice HO19.out; subst eo86)); try go_wp2_with (first | (go_at_call 18; (with_reducible refine (q4z.calls k5 _ _ (rd_L2 l0 x91_5) _ _ y13 t17 _ ?side1 ?side2 ?side3 ?side4 A48.out).mono ?_); (case side1 => repeat (first | exact (Kd.C_below HR12_0.out HB.out) | (with_reducible refine Kd.C_alloc ?_ _) | (with_reducible refine Kd.C_drewN ?_ _) | (with_reducible refine Kd.C_drew ?_))); (case side2 => exact HC12_0.out); (case side3 => repeat (first | exact (by repeat (first | (with_reducible exact HR16.out) | (with_reducible refine Kd.C_alloc ?_ _) | (with_reducible refine Kd.C_drewN ?_ _) | (with_reducible refine Kd.C_drew ?_) | exact HR16.out)) | (with_reducible refine Kd.C_alloc ?_ _) | (with_reducible refine Kd.C_drewN ?_ _) | (with_reducible refine Kd.C_drew ?_))); (case side4 => exact HC16.out); rintro e w83 ⟨v18, rfl, ho0, hb⟩; have n0_ := Aside0.mk (Kd.R_elder' (by (with_reducible repeat (first | apply Kd.R_alloc | apply Kd.R_drewN | apply Kd.R_drew)); exact HO_5.out) (Kd.R_base ho0) hb); have n1_ := Aside0.mk (Kd.R_elder' (by (with_reducible repeat (first | apply Kd.R_alloc | apply Kd.R_drewN | apply Kd.R_drew)); exact HO_50.out) (Kd.R_base ho0) hb); have n2_ := Aside0.mk (Kd.R_lower (Kd.R_newB (Kd.R_new' (Kd.R_new' ho0 (Kd.R_lt (by (with_reducible repeat (first | apply Kd.R_alloc | apply Kd.R_drewN | apply Kd.R_drew)); exact HO_5.out))) (Kd.R_lt (by (with_reducible repeat (first | apply Kd.R_alloc | apply Kd.R_drewN | apply Kd.R_drew)); exact HO_50.out))) (g := gb9) (o := .cells #[.int .u32 ((rd_T33 t3 x52_3).f0), .int .u32 ((rd_T33 t3 x52_3).f1)] 33 (0, 0)) (by (with_reducible repeat (first | refine blk_drewN ?_ _ | refine blk_drew ?_ | refine blk_alloc ?_ _)); exact BK9.out)) (below_size (by repeat (first | (with_reducible first | exact HB.out | apply below_alloc | apply pw_below_drewN | apply below_drew1 | refine below_set ?_ GE9.out) | exact HB.out)))); have n3_ := Aside0.mk (blk_below (g := gb9) (o := .cells #[.int .u32 ((rd_T33 t3 x52_3).f0), .int .u32 ((rd_T33 t3 x52_3).f1)] 33 (0, 0)) (by (with_reducible repeat (first | refine blk_drewN ?_ _ | refine blk_drew ?_ | refine blk_alloc ?_ _)); exact BK9.out) hb); have n4_ := Aside0.mk (Kd.C_below (by repeat (first | (with_reducible exact HR16.out) | (with_reducible refine Kd.C_alloc ?_ _) | (with_reducible refine Kd.C_drewN ?_ _) | (with_reducible refine Kd.C_drew ?_) | exact HR16.out)) hb); have n5_ := Aside0.mk (below_step (by repeat (first | (with_reducible first | exact HB.out | apply below_alloc | apply pw_below_drewN | apply below_drew1 | refine below_set ?_ GE9.out) | exact HB.out)) hb); clear HO_5; clear HO_50; clear BK9; clear HR16; clear HB; have HO_5 := n0_; have HO_50 := n1_; have HO19 := n2_; have BK9 := n3_; have HR16 := n4_; have HB := n5_; clear n0_ n1_ n2_ n3_ n4_ n5_; (try clear hb); (try clear hb2); (try clear hk); (try clear hi); (try clear ho0); have hcz84_0 : w83.cell? ⟨gb9, 0, none⟩ = some (.int .u32 ((rd_T33 t3 x52_3).f0)) := (blk_cell BK9.out 0).trans rfl; have hcz84_1 : w83.cell? ⟨gb9, 1, none⟩ = some (.int .u32 ((rd_T33 t3 x52_3).f1)) := (blk_cell BK9.out 1).trans rfl; have hfz84_0 := blk_frozen BK9.out 0; have hfz84_1 := blk_frozen BK9.out 1) | (go_at_call 16; (with_reducible refine (span_In.calls _ _ (rd_L2 l0 x91_5) ((rd_T33 t3 x52_3).f0) false _ ?side1 ?side2 A49.out).mono ?_); (case side1 => repeat (first | exact (Kd.C_below HR12_0.out HB.out) | (with_reducible refine Kd.C_alloc ?_ _) | (with_reducible refine Kd.C_drewN ?_ _) | (with_reducible refine Kd.C_drew ?_))); (case side2 => exact HC12_0.out); rintro e w85 ⟨rfl, hb⟩; have n0_ := Aside0.mk (Kd.R_below (by (with_reducible repeat (first | apply Kd.R_alloc | apply Kd.R_drewN | apply Kd.R_drew)); exact HO_5.out) hb); have n1_ := Aside0.mk (Kd.R_below (by (with_reducible repeat (first | apply Kd.R_alloc | apply Kd.R_drewN | apply Kd.R_drew)); exact HO_50.out) hb); have n2_ := Aside0.mk (Kd.R_below (by (with_reducible repeat (first | apply Kd.R_alloc | apply Kd.R_drewN | apply Kd.R_drew)); exact HO19.out) hb); have n3_ := Aside0.mk (blk_below (g := gb9) (o := .cells #[.int .u32 ((rd_T33 t3 x52_3).f0), .int .u32 ((rd_T33 t3 x52_3).f1)] 33 (0, 0)) (by (with_reducible repeat (first | refine blk_drewN ?_ _ | refine blk_drew ?_ | refine blk_alloc ?_ _)); exact BK9.out) hb); have n4_ := Aside0.mk (Kd.C_below (by repeat (first | (with_reducible exact HR16.out) | (with_reducible refine Kd.C_alloc ?_ _) | (with_reducible refine Kd.C_drewN ?_ _) | (with_reducible refine Kd.C_drew ?_) | exact HR16.out)) hb); have n5_ := Aside0.mk (below_step (by repeat (first | (with_reducible first | exact HB.out | apply below_alloc | apply pw_below_drewN | apply below_drew1 | refine below_set ?_ GE9.out) | exact HB.out)) hb); clear HO_5; clear HO_50; clear HO19; clear BK9; clear HR16; clear HB; have HO_5 := n0_; have HO_50 := n1_; have HO19 := n2_; have BK9 := n3_; have HR16 := n4_; have HB := n5_; clear n0_ n1_ n2_ n3_ n4_ n5_; (try clear hb); (try clear hb2); (try clear hk); (try clear hi); obtain ⟨Ao86, co86, eo86⟩ := Kd.R_slice HO19.out; subst eo86)))
                            go_roundg k5
                            case measure => have := HK1.out; have := HJ11.out; have := HK3.out; have := HJ27.out; have := HK5.out; omega
                            case rel => exact ⟨(true), (wrap64 (x91_5 + 1)), (by first | rfl | (simp; done) | (simp [*]; done)), (by first | rfl | (simp; done) | (simp [*]; done)), H', ⟨by have := HK1.out; have := HJ11.out; have := HK3.out; have := HJ27.out; have := HK5.out; omega⟩, ⟨by (with_reducible repeat (first | apply Kd.R_alloc | apply Kd.R_drewN | apply Kd.R_drew)); exact Kd.R_mono HO_5.out (fun _ hk => hk.1)⟩, ⟨by (with_reducible repeat (first | apply Kd.R_alloc | apply Kd.R_drewN | apply Kd.R_drew)); exact Kd.R_mono HO_50.out (fun _ hk => hk.1)⟩, ⟨by (with_reducible repeat (first | refine blk_drewN ?_ _ | refine blk_drew ?_ | refine blk_alloc ?_ _)); exact BK9.out⟩, ⟨by repeat (first | (with_reducible first | exact HB.out | apply below_alloc | apply pw_below_drewN | apply below_drew1 | refine below_set ?_ GE9.out) | exact HB.out)⟩⟩
                           ·
                            replace c81 := Bool.eq_false_iff.mpr c81
                            subst c81
                            have H1 : (if 0 ≤ (wrap64 (x52_3 - 1)) then (if (wrap64 (x52_3 - 1)) < (t3.length : Int) then ((span_In.f (rd_L2 l0 x91_5) ((rd_T33 t3 (wrap64 (x52_3 - 1))).f0)).bind fun t29 => (q7z.l2 k5 l0 t3 x52_3 (false != t29) t3 (t3.length : Int) x52_3 l0 (l0.length : Int) (wrap64 (x91_5 + 1)) ((rd_T33 t3 x52_3).f0) ((rd_T33 t3 x52_3).f1))) else (none)) else (none)) = some r := by rw [if_neg (show ¬ (false = true) by decide)] at H; exact H
                            clear H
                            have H := H1
                            clear H1
                            obtain ⟨ji87, hji87⟩ : ∃ j_ : Int, (wrap64 (x52_3 - 1)) = j_ := ⟨_, rfl⟩
                            replace H : (if 0 ≤ (ji87) then (if (ji87) < (t3.length : Int) then ((span_In.f (rd_L2 l0 x91_5) ((rd_T33 t3 (ji87)).f0)).bind fun t29 => (q7z.l2 k5 l0 t3 x52_3 (false != t29) t3 (t3.length : Int) x52_3 l0 (l0.length : Int) (wrap64 (x91_5 + 1)) ((rd_T33 t3 x52_3).f0) ((rd_T33 t3 x52_3).f1))) else (none)) else (none)) = some r := by first | (rw [hji87] at H; exact H) | (simp only [hji87] at H ⊢; exact H)
                            (try rw [hji87] at A48)
                            (try rw [hji87] at A49)
                            have hji87w : (IntKind.i64.wrap (x52_3 - 1)) = ji87 := (i64_w _).trans hji87
                            by_cases c88 : 0 ≤ (ji87)
                            ·
                             rw [if_pos c88] at H
                             have c88b0 : decide (0 ≤ (ji87)) = true := decide_eq_true c88
                             clear c88
                             by_cases c89 : (ji87) < (t3.length : Int)
                             ·
                              rw [if_pos c89] at H
                              have c89b0 : decide ((ji87) < (t3.length : Int)) = true := decide_eq_true c89
                              clear c89
                              replace H := Option.bind_eq_some_iff.mp H
                              obtain ⟨t29, A900, H⟩ := H
                              replace H : (q7z.l2 k5 l0 t3 x52_3 (false != t29) t3 (t3.length : Int) x52_3 l0 (l0.length : Int) (wrap64 (x91_5 + 1)) ((rd_T33 t3 x52_3).f0) ((rd_T33 t3 x52_3).f1)) = some r := H
                              have A90 := Aside0.mk A900
                              clear A900
                              have H' := Aside0.mk H
                              clear H
                              have p12 : 0 ≤ (x91_5 : Int) := of_decide_eq_true (by first | (with_reducible assumption) | assumption)
                              have q12 : x91_5 < (l0.length : Int) := of_decide_eq_true (by first | (with_reducible assumption) | assumption)
                              obtain ⟨ad12, A12_0, c12_0, e12, hx12_0, hl12_0, hi12_0⟩ := at_L2 HR0.out x91_5 p12 q12
                              cases e12
                              replace hx12_0 := (HB.out.cell (World.block_lt_of_cell? w _ hx12_0)).trans hx12_0
                              have HR12_0 := Aside0.mk hi12_0
                              have HC12_0 := Aside0.mk hl12_0
                              clear hi12_0 hl12_0
                              replace p12 := eq_true p12
                              replace q12 := eq_true q12
                              have q91 : ((wrap64 (x52_3 + 1)) : Int) ≤ ((t3.length : Int) : Int) := of_decide_eq_true (by first | (with_reducible assumption) | assumption)
                              obtain ⟨i091, hi091, _, hsz91, _⟩ := info_parts info33
                              have hroom91 : t3.length ≤ co24 := (Kd.R_reads' HO_5.out).2.1
                              have hC91 : Kd.C k33 _ (some ad8) t3.length t3 := (Kd.R_reads' HO_5.out).2.2
                              have ql91 : (x52_3 : Int) ≤ ((wrap64 (x52_3 + 1)) : Int) := of_decide_eq_true (by first | (with_reducible assumption) | assumption)
                              have q091 : (0 : Int) ≤ (x52_3 : Int) := of_decide_eq_true (by first | (with_reducible assumption) | assumption)
                              have hcut91 := cut_mid (P := Try.prog) 24 33 .i64 .i64 Try.underlying24 hi091 2 hsz91 (some ad8) t3.length co24 x52_3 (wrap64 (x52_3 + 1)) q091 ql91 q91 hroom91
                              have hr91 := Kd.C_mid (lo := (x52_3 : Int).toNat) (hi := ((wrap64 (x52_3 + 1)) : Int).toNat) (c := co24) hC91 (by omega) (by omega) hroom91
                              obtain ⟨A91, hA91⟩ : ∃ A1, A1 = (if co24 = (x52_3 : Int).toNat then (some ad8) else ((some ad8) : Option Addr).map (·.add ((x52_3 : Int).toNat * 2))) := ⟨_, rfl⟩
                              obtain ⟨c91, hc91⟩ : ∃ c1, c1 = co24 - (x52_3 : Int).toNat := ⟨_, rfl⟩
                              have hy91 : y13.length = ((wrap64 (x52_3 + 1)) : Int).toNat - (x52_3 : Int).toNat := (by rw [Ny13.out, List.length_drop, List.length_take] <;> omega)
                              rw [show ((t3).take ((wrap64 (x52_3 + 1)) : Int).toNat).drop (x52_3 : Int).toNat = y13 from Ny13.out.symm] at hr91
                              replace hr91 : Kd.C k33 _ A91 y13.length y13 := (by rw [hA91]; exact hr91)
                              rw [← hy91, ← hA91, ← hc91] at hcut91
                              have HR16 := Aside0.mk hr91
                              have HC16 := Aside0.mk (show y13.length ≤ c91 from by rw [hy91, hc91]; exact Nat.sub_le_sub_right (Nat.le_trans (by omega) hroom91) _)
                              clear hr91 hC91 hroom91 hi091 hsz91 hc91
                              have KY91 := Aside0.mk hy91
                              have KA91 := Aside0.mk hA91
                              clear hy91 hA91
                              have KL91 := Aside0.mk (show ((wrap64 (x52_3 + 1)) : Int).toNat ≤ t3.length from by omega)
                              have KM91 := Aside0.mk (show (x52_3 : Int).toNat ≤ ((wrap64 (x52_3 + 1)) : Int).toNat from by omega)
                              replace q91 := eq_true q91
                              go_wp2_with (first | (go_at_call 18; (with_reducible refine (q4z.calls k5 _ _ (rd_L2 l0 x91_5) _ _ y13 t17 _ ?side1 ?side2 ?side3 ?side4 A48.out).mono ?_); (case side1 => repeat (first | exact (Kd.C_below HR12_0.out HB.out) | (with_reducible refine Kd.C_alloc ?_ _) | (with_reducible refine Kd.C_drewN ?_ _) | (with_reducible refine Kd.C_drew ?_))); (case side2 => exact HC12_0.out); (case side3 => repeat (first | exact (by repeat (first | (with_reducible exact HR16.out) | (with_reducible refine Kd.C_alloc ?_ _) | (with_reducible refine Kd.C_drewN ?_ _) | (with_reducible refine Kd.C_drew ?_) | exact HR16.out)) | (with_reducible refine Kd.C_alloc ?_ _) | (with_reducible refine Kd.C_drewN ?_ _) | (with_reducible refine Kd.C_drew ?_))); (case side4 => exact HC16.out); rintro e w92 ⟨v18, rfl, ho0, hb⟩; have n0_ := Aside0.mk (Kd.R_elder' (by (with_reducible repeat (first | apply Kd.R_alloc | apply Kd.R_drewN | apply Kd.R_drew)); exact HO_5.out) (Kd.R_base ho0) hb); have n1_ := Aside0.mk (Kd.R_elder' (by (with_reducible repeat (first | apply Kd.R_alloc | apply Kd.R_drewN | apply Kd.R_drew)); exact HO_50.out) (Kd.R_base ho0) hb); have n2_ := Aside0.mk (Kd.R_lower (Kd.R_newB (Kd.R_new' (Kd.R_new' ho0 (Kd.R_lt (by (with_reducible repeat (first | apply Kd.R_alloc | apply Kd.R_drewN | apply Kd.R_drew)); exact HO_5.out))) (Kd.R_lt (by (with_reducible repeat (first | apply Kd.R_alloc | apply Kd.R_drewN | apply Kd.R_drew)); exact HO_50.out))) (g := gb9) (o := .cells #[.int .u32 ((rd_T33 t3 x52_3).f0), .int .u32 ((rd_T33 t3 x52_3).f1)] 33 (0, 0)) (by (with_reducible repeat (first | refine blk_drewN ?_ _ | refine blk_drew ?_ | refine blk_alloc ?_ _)); exact BK9.out)) (below_size (by repeat (first | (with_reducible first | exact HB.out | apply below_alloc | apply pw_below_drewN | apply below_drew1 | refine below_set ?_ GE9.out) | exact HB.out)))); have n3_ := Aside0.mk (blk_below (g := gb9) (o := .cells #[.int .u32 ((rd_T33 t3 x52_3).f0), .int .u32 ((rd_T33 t3 x52_3).f1)] 33 (0, 0)) (by (with_reducible repeat (first | refine blk_drewN ?_ _ | refine blk_drew ?_ | refine blk_alloc ?_ _)); exact BK9.out) hb); have n4_ := Aside0.mk (Kd.C_below (by repeat (first | (with_reducible exact HR16.out) | (with_reducible refine Kd.C_alloc ?_ _) | (with_reducible refine Kd.C_drewN ?_ _) | (with_reducible refine Kd.C_drew ?_) | exact HR16.out)) hb); have n5_ := Aside0.mk (below_step (by repeat (first | (with_reducible first | exact HB.out | apply below_alloc | apply pw_below_drewN | apply below_drew1 | refine below_set ?_ GE9.out) | exact HB.out)) hb); clear HO_5; clear HO_50; clear BK9; clear HR16; clear HB; have HO_5 := n0_; have HO_50 := n1_; have HO19 := n2_; have BK9 := n3_; have HR16 := n4_; have HB := n5_; clear n0_ n1_ n2_ n3_ n4_ n5_; (try clear hb); (try clear hb2); (try clear hk); (try clear hi); (try clear ho0); have hcz93_0 : w92.cell? ⟨gb9, 0, none⟩ = some (.int .u32 ((rd_T33 t3 x52_3).f0)) := (blk_cell BK9.out 0).trans rfl; have hcz93_1 : w92.cell? ⟨gb9, 1, none⟩ = some (.int .u32 ((rd_T33 t3 x52_3).f1)) := (blk_cell BK9.out 1).trans rfl; have hfz93_0 := blk_frozen BK9.out 0; have hfz93_1 := blk_frozen BK9.out 1) | (go_at_call 16; (with_reducible refine (span_In.calls _ _ (rd_L2 l0 x91_5) ((rd_T33 t3 x52_3).f0) false _ ?side1 ?side2 A49.out).mono ?_); (case side1 => repeat (first | exact (Kd.C_below HR12_0.out HB.out) | (with_reducible refine Kd.C_alloc ?_ _) | (with_reducible refine Kd.C_drewN ?_ _) | (with_reducible refine Kd.C_drew ?_))); (case side2 => exact HC12_0.out); rintro e w94 ⟨rfl, hb⟩; have n0_ := Aside0.mk (Kd.R_below (by (with_reducible repeat (first | apply Kd.R_alloc | apply Kd.R_drewN | apply Kd.R_drew)); exact HO_5.out) hb); have n1_ := Aside0.mk (Kd.R_below (by (with_reducible repeat (first | apply Kd.R_alloc | apply Kd.R_drewN | apply Kd.R_drew)); exact HO_50.out) hb); have n2_ := Aside0.mk (Kd.R_below (by (with_reducible repeat (first | apply Kd.R_alloc | apply Kd.R_drewN | apply Kd.R_drew)); exact HO19.out) hb); have n3_ := Aside0.mk (blk_below (g := gb9) (o := .cells #[.int .u32 ((rd_T33 t3 x52_3).f0), .int .u32 ((rd_T33 t3 x52_3).f1)] 33 (0, 0)) (by (with_reducible repeat (first | refine blk_drewN ?_ _ | refine blk_drew ?_ | refine blk_alloc ?_ _)); exact BK9.out) hb); have n4_ := Aside0.mk (Kd.C_below (by repeat (first | (with_reducible exact HR16.out) | (with_reducible refine Kd.C_alloc ?_ _) | (with_reducible refine Kd.C_drewN ?_ _) | (with_reducible refine Kd.C_drew ?_) | exact HR16.out)) hb); have n5_ := Aside0.mk (below_step (by repeat (first | (with_reducible first | exact HB.out | apply below_alloc | apply pw_below_drewN | apply below_drew1 | refine below_set ?_ GE9.out) | exact HB.out)) hb); clear HO_5; clear HO_50; clear HO19; clear BK9; clear HR16; clear HB; have HO_5 := n0_; have HO_50 := n1_; have HO19 := n2_; have BK9 := n3_; have HR16 := n4_; have HB := n5_; clear n0_ n1_ n2_ n3_ n4_ n5_; (try clear hb); (try clear hb2); (try clear hk); (try clear hi); obtain ⟨Ao95, co95, eo95⟩ := Kd.R_slice HO19.out; subst eo95; have p28 : 0 ≤ ((ji87) : Int) := of_decide_eq_true (by first | (with_reducible assumption) | assumption); have q28 : (ji87) < (t3.length : Int) := of_decide_eq_true (by first | (with_reducible assumption) | assumption); obtain ⟨ad28, e28, hx28_0, hx28_1⟩ := at_T33 (Kd.R_reads' HO_5.out).2.2 (ji87) p28 q28; obtain rfl : ad8 = ad28 := (by injection e28); replace p28 := eq_true p28; replace q28 := eq_true q28) | (go_at_call 16; (with_reducible refine (span_In.calls _ _ (rd_L2 l0 x91_5) ((rd_T33 t3 (ji87)).f0) t29 _ ?side1 ?side2 A90.out).mono ?_); (case side1 => repeat (first | exact (Kd.C_below HR12_0.out HB.out) | (with_reducible refine Kd.C_alloc ?_ _) | (with_reducible refine Kd.C_drewN ?_ _) | (with_reducible refine Kd.C_drew ?_))); (case side2 => exact HC12_0.out); rintro e w96 ⟨rfl, hb⟩; have n0_ := Aside0.mk (Kd.R_below (by (with_reducible repeat (first | apply Kd.R_alloc | apply Kd.R_drewN | apply Kd.R_drew)); exact HO_5.out) hb); have n1_ := Aside0.mk (Kd.R_below (by (with_reducible repeat (first | apply Kd.R_alloc | apply Kd.R_drewN | apply Kd.R_drew)); exact HO_50.out) hb); have n2_ := Aside0.mk (Kd.R_below (by (with_reducible repeat (first | apply Kd.R_alloc | apply Kd.R_drewN | apply Kd.R_drew)); exact HO19.out) hb); have n3_ := Aside0.mk (blk_below (g := gb9) (o := .cells #[.int .u32 ((rd_T33 t3 x52_3).f0), .int .u32 ((rd_T33 t3 x52_3).f1)] 33 (0, 0)) (by (with_reducible repeat (first | refine blk_drewN ?_ _ | refine blk_drew ?_ | refine blk_alloc ?_ _)); exact BK9.out) hb); have n4_ := Aside0.mk (Kd.C_below (by repeat (first | (with_reducible exact HR16.out) | (with_reducible refine Kd.C_alloc ?_ _) | (with_reducible refine Kd.C_drewN ?_ _) | (with_reducible refine Kd.C_drew ?_) | exact HR16.out)) hb); have n5_ := Aside0.mk (below_step (by repeat (first | (with_reducible first | exact HB.out | apply below_alloc | apply pw_below_drewN | apply below_drew1 | refine below_set ?_ GE9.out) | exact HB.out)) hb); clear HO_5; clear HO_50; clear HO19; clear BK9; clear HR16; clear HB; have HO_5 := n0_; have HO_50 := n1_; have HO19 := n2_; have BK9 := n3_; have HR16 := n4_; have HB := n5_; clear n0_ n1_ n2_ n3_ n4_ n5_; (try clear hb); (try clear hb2); (try clear hk); (try clear hi)))
                              repeat (go_quiet (first | (go_at_call 18; (with_reducible refine (q4z.calls k5 _ _ (rd_L2 l0 x91_5) _ _ y13 t17 _ ?side1 ?side2 ?side3 ?side4 A48.out).mono ?_); (case side1 => repeat (first | exact (Kd.C_below HR12_0.out HB.out) | (with_reducible refine Kd.C_alloc ?_ _) | (with_reducible refine Kd.C_drewN ?_ _) | (with_reducible refine Kd.C_drew ?_))); (case side2 => exact HC12_0.out); (case side3 => repeat (first | exact (by repeat (first | (with_reducible exact HR16.out) | (with_reducible refine Kd.C_alloc ?_ _) | (with_reducible refine Kd.C_drewN ?_ _) | (with_reducible refine Kd.C_drew ?_) | exact HR16.out)) | (with_reducible refine Kd.C_alloc ?_ _) | (with_reducible refine Kd.C_drewN ?_ _) | (with_reducible refine Kd.C_drew ?_))); (case side4 => exact HC16.out); rintro e w92 ⟨v18, rfl, ho0, hb⟩; have n0_ := Aside0.mk (Kd.R_elder' (by (with_reducible repeat (first | apply Kd.R_alloc | apply Kd.R_drewN | apply Kd.R_drew)); exact HO_5.out) (Kd.R_base ho0) hb); have n1_ := Aside0.mk (Kd.R_elder' (by (with_reducible repeat (first | apply Kd.R_alloc | apply Kd.R_drewN | apply Kd.R_drew)); exact HO_50.out) (Kd.R_base ho0) hb); have n2_ := Aside0.mk (Kd.R_lower (Kd.R_newB (Kd.R_new' (Kd.R_new' ho0 (Kd.R_lt (by (with_reducible repeat (first | apply Kd.R_alloc | apply Kd.R_drewN | apply Kd.R_drew)); exact HO_5.out))) (Kd.R_lt (by (with_reducible repeat (first | apply Kd.R_alloc | apply Kd.R_drewN | apply Kd.R_drew)); exact HO_50.out))) (g := gb9) (o := .cells #[.int .u32 ((rd_T33 t3 x52_3).f0), .int .u32 ((rd_T33 t3 x52_3).f1)] 33 (0, 0)) (by (with_reducible repeat (first | refine blk_drewN ?_ _ | refine blk_drew ?_ | refine blk_alloc ?_ _)); exact BK9.out)) (below_size (by repeat (first | (with_reducible first | exact HB.out | apply below_alloc | apply pw_below_drewN | apply below_drew1 | refine below_set ?_ GE9.out) | exact HB.out)))); have n3_ := Aside0.mk (blk_below (g := gb9) (o := .cells #[.int .u32 ((rd_T33 t3 x52_3).f0), .int .u32 ((rd_T33 t3 x52_3).f1)] 33 (0, 0)) (by (with_reducible repeat (first | refine blk_drewN ?_ _ | refine blk_drew ?_ | refine blk_alloc ?_ _)); exact BK9.out) hb); have n4_ := Aside0.mk (Kd.C_below (by repeat (first | (with_reducible exact HR16.out) | (with_reducible refine Kd.C_alloc ?_ _) | (with_reducible refine Kd.C_drewN ?_ _) | (with_reducible refine Kd.C_drew ?_) | exact HR16.out)) hb); have n5_ := Aside0.mk (below_step (by repeat (first | (with_reducible first | exact HB.out | apply below_alloc | apply pw_below_drewN | apply below_drew1 | refine below_set ?_ GE9.out) | exact HB.out)) hb); clear HO_5; clear HO_50; clear BK9; clear HR16; clear HB; have HO_5 := n0_; have HO_50 := n1_; have HO19 := n2_; have BK9 := n3_; have HR16 := n4_; have HB := n5_; clear n0_ n1_ n2_ n3_ n4_ n5_; (try clear hb); (try clear hb2); (try clear hk); (try clear hi); (try clear ho0); have hcz93_0 : w92.cell? ⟨gb9, 0, none⟩ = some (.int .u32 ((rd_T33 t3 x52_3).f0)) := (blk_cell BK9.out 0).trans rfl; have hcz93_1 : w92.cell? ⟨gb9, 1, none⟩ = some (.int .u32 ((rd_T33 t3 x52_3).f1)) := (blk_cell BK9.out 1).trans rfl; have hfz93_0 := blk_frozen BK9.out 0; have hfz93_1 := blk_frozen BK9.out 1) | (go_at_call 16; (with_reducible refine (span_In.calls _ _ (rd_L2 l0 x91_5) ((rd_T33 t3 x52_3).f0) false _ ?side1 ?side2 A49.out).mono ?_); (case side1 => repeat (first | exact (Kd.C_below HR12_0.out HB.out) | (with_reducible refine Kd.C_alloc ?_ _) | (with_reducible refine Kd.C_drewN ?_ _) | (with_reducible refine Kd.C_drew ?_))); (case side2 => exact HC12_0.out); rintro e w94 ⟨rfl, hb⟩; have n0_ := Aside0.mk (Kd.R_below (by (with_reducible repeat (first | apply Kd.R_alloc | apply Kd.R_drewN | apply Kd.R_drew)); exact HO_5.out) hb); have n1_ := Aside0.mk (Kd.R_below (by (with_reducible repeat (first | apply Kd.R_alloc | apply Kd.R_drewN | apply Kd.R_drew)); exact HO_50.out) hb); have n2_ := Aside0.mk (Kd.R_below (by (with_reducible repeat (first | apply Kd.R_alloc | apply Kd.R_drewN | apply Kd.R_drew)); exact HO19.out) hb); have n3_ := Aside0.mk (blk_below (g := gb9) (o := .cells #[.int .u32 ((rd_T33 t3 x52_3).f0), .int .u32 ((rd_T33 t3 x52_3).f1)] 33 (0, 0)) (by (with_reducible repeat (first | refine blk_drewN ?_ _ | refine blk_drew ?_ | refine blk_alloc ?_ _)); exact BK9.out) hb); have n4_ := Aside0.mk (Kd.C_below (by repeat (first | (with_reducible exact HR16.out) | (with_reducible refine Kd.C_alloc ?_ _) | (with_reducible refine Kd.C_drewN ?_ _) | (with_reducible refine Kd.C_drew ?_) | exact HR16.out)) hb); have n5_ := Aside0.mk (below_step (by repeat (first | (with_reducible first | exact HB.out | apply below_alloc | apply pw_below_drewN | apply below_drew1 | refine below_set ?_ GE9.out) | exact HB.out)) hb); clear HO_5; clear HO_50; clear HO19; clear BK9; clear HR16; clear HB; have HO_5 := n0_; have HO_50 := n1_; have HO19 := n2_; have BK9 := n3_; have HR16 := n4_; have HB := n5_; clear n0_ n1_ n2_ n3_ n4_ n5_; (try clear hb); (try clear hb2); (try clear hk); (try clear hi); obtain ⟨Ao95, co95, eo95⟩ := Kd.R_slice HO19.out; subst eo95; have p28 : 0 ≤ ((ji87) : Int) := of_decide_eq_true (by first | (with_reducible assumption) | assumption); have q28 : (ji87) < (t3.length : Int) := of_decide_eq_true (by first | (with_reducible assumption) | assumption); obtain ⟨ad28, e28, hx28_0, hx28_1⟩ := at_T33 (Kd.R_reads' HO_5.out).2.2 (ji87) p28 q28; obtain rfl : ad8 = ad28 := (by injection e28); replace p28 := eq_true p28; replace q28 := eq_true q28) | (go_at_call 16; (with_reducible refine (span_In.calls _ _ (rd_L2 l0 x91_5) ((rd_T33 t3 (ji87)).f0) t29 _ ?side1 ?side2 A90.out).mono ?_); (case side1 => repeat (first | exact (Kd.C_below HR12_0.out HB.out) | (with_reducible refine Kd.C_alloc ?_ _) | (with_reducible refine Kd.C_drewN ?_ _) | (with_reducible refine Kd.C_drew ?_))); (case side2 => exact HC12_0.out); rintro e w96 ⟨rfl, hb⟩; have n0_ := Aside0.mk (Kd.R_below (by (with_reducible repeat (first | apply Kd.R_alloc | apply Kd.R_drewN | apply Kd.R_drew)); exact HO_5.out) hb); have n1_ := Aside0.mk (Kd.R_below (by (with_reducible repeat (first | apply Kd.R_alloc | apply Kd.R_drewN | apply Kd.R_drew)); exact HO_50.out) hb); have n2_ := Aside0.mk (Kd.R_below (by (with_reducible repeat (first | apply Kd.R_alloc | apply Kd.R_drewN | apply Kd.R_drew)); exact HO19.out) hb); have n3_ := Aside0.mk (blk_below (g := gb9) (o := .cells #[.int .u32 ((rd_T33 t3 x52_3).f0), .int .u32 ((rd_T33 t3 x52_3).f1)] 33 (0, 0)) (by (with_reducible repeat (first | refine blk_drewN ?_ _ | refine blk_drew ?_ | refine blk_alloc ?_ _)); exact BK9.out) hb); have n4_ := Aside0.mk (Kd.C_below (by repeat (first | (with_reducible exact HR16.out) | (with_reducible refine Kd.C_alloc ?_ _) | (with_reducible refine Kd.C_drewN ?_ _) | (with_reducible refine Kd.C_drew ?_) | exact HR16.out)) hb); have n5_ := Aside0.mk (below_step (by repeat (first | (with_reducible first | exact HB.out | apply below_alloc | apply pw_below_drewN | apply below_drew1 | refine below_set ?_ GE9.out) | exact HB.out)) hb); clear HO_5; clear HO_50; clear HO19; clear BK9; clear HR16; clear HB; have HO_5 := n0_; have HO_50 := n1_; have HO19 := n2_; have BK9 := n3_; have HR16 := n4_; have HB := n5_; clear n0_ n1_ n2_ n3_ n4_ n5_; (try clear hb); (try clear hb2); (try clear hk); (try clear hi))); try go_wp2_with (first | (go_at_call 18; (with_reducible refine (q4z.calls k5 _ _ (rd_L2 l0 x91_5) _ _ y13 t17 _ ?side1 ?side2 ?side3 ?side4 A48.out).mono ?_); (case side1 => repeat (first | exact (Kd.C_below HR12_0.out HB.out) | (with_reducible refine Kd.C_alloc ?_ _) | (with_reducible refine Kd.C_drewN ?_ _) | (with_reducible refine Kd.C_drew ?_))); (case side2 => exact HC12_0.out); (case side3 => repeat (first | exact (by repeat (first | (with_reducible exact HR16.out) | (with_reducible refine Kd.C_alloc ?_ _) | (with_reducible refine Kd.C_drewN ?_ _) | (with_reducible refine Kd.C_drew ?_) | exact HR16.out)) | (with_reducible refine Kd.C_alloc ?_ _) | (with_reducible refine Kd.C_drewN ?_ _) | (with_reducible refine Kd.C_drew ?_))); (case side4 => exact HC16.out); rintro e w92 ⟨v18, rfl, ho0, hb⟩; have n0_ := Aside0.mk (Kd.R_elder' (by (with_reducible repeat (first | apply Kd.R_alloc | apply Kd.R_drewN | apply Kd.R_drew)); exact HO_5.out) (Kd.R_base ho0) hb); have n1_ := Aside0.mk (Kd.R_elder' (by (with_reducible repeat (first | apply Kd.R_alloc | apply Kd.R_drewN | apply Kd.R_drew)); exact HO_50.out) (Kd.R_base ho0) hb); have n2_ := Aside0.mk (Kd.R_lower (Kd.R_newB (Kd.R_new' (Kd.R_new' ho0 (Kd.R_lt (by (with_reducible repeat (first | apply Kd.R_alloc | apply Kd.R_drewN | apply Kd.R_drew)); exact HO_5.out))) (Kd.R_lt (by (with_reducible repeat (first | apply Kd.R_alloc | apply Kd.R_drewN | apply Kd.R_drew)); exact HO_50.out))) (g := gb9) (o := .cells #[.int .u32 ((rd_T33 t3 x52_3).f0), .int .u32 ((rd_T33 t3 x52_3).f1)] 33 (0, 0)) (by (with_reducible repeat (first | refine blk_drewN ?_ _ | refine blk_drew ?_ | refine blk_alloc ?_ _)); exact BK9.out)) (below_size (by repeat (first | (with_reducible first | exact HB.out | apply below_alloc | apply pw_below_drewN | apply below_drew1 | refine below_set ?_ GE9.out) | exact HB.out)))); have n3_ := Aside0.mk (blk_below (g := gb9) (o := .cells #[.int .u32 ((rd_T33 t3 x52_3).f0), .int .u32 ((rd_T33 t3 x52_3).f1)] 33 (0, 0)) (by (with_reducible repeat (first | refine blk_drewN ?_ _ | refine blk_drew ?_ | refine blk_alloc ?_ _)); exact BK9.out) hb); have n4_ := Aside0.mk (Kd.C_below (by repeat (first | (with_reducible exact HR16.out) | (with_reducible refine Kd.C_alloc ?_ _) | (with_reducible refine Kd.C_drewN ?_ _) | (with_reducible refine Kd.C_drew ?_) | exact HR16.out)) hb); have n5_ := Aside0.mk (below_step (by repeat (first | (with_reducible first | exact HB.out | apply below_alloc | apply pw_below_drewN | apply below_drew1 | refine below_set ?_ GE9.out) | exact HB.out)) hb); clear HO_5; clear HO_50; clear BK9; clear HR16; clear HB; have HO_5 := n0_; have HO_50 := n1_; have HO19 := n2_; have BK9 := n3_; have HR16 := n4_; have HB := n5_; clear n0_ n1_ n2_ n3_ n4_ n5_; (try clear hb); (try clear hb2); (try clear hk); (try clear hi); (try clear ho0); have hcz93_0 : w92.cell? ⟨gb9, 0, none⟩ = some (.int .u32 ((rd_T33 t3 x52_3).f0)) := (blk_cell BK9.out 0).trans rfl; have hcz93_1 : w92.cell? ⟨gb9, 1, none⟩ = some (.int .u32 ((rd_T33 t3 x52_3).f1)) := (blk_cell BK9.out 1).trans rfl; have hfz93_0 := blk_frozen BK9.out 0; have hfz93_1 := blk_frozen BK9.out 1) | (go_at_call 16; (with_reducible refine (span_In.calls _ _ (rd_L2 l0 x91_5) ((rd_T33 t3 x52_3).f0) false _ ?side1 ?side2 A49.out).mono ?_); (case side1 => repeat (first | exact (Kd.C_below HR12_0.out HB.out) | (with_reducible refine Kd.C_alloc ?_ _) | (with_reducible refine Kd.C_drewN ?_ _) | (with_reducible refine Kd.C_drew ?_))); (case side2 => exact HC12_0.out); rintro e w94 ⟨rfl, hb⟩; have n0_ := Aside0.mk (Kd.R_below (by (with_reducible repeat (first | apply Kd.R_alloc | apply Kd.R_drewN | apply Kd.R_drew)); exact HO_5.out) hb); have n1_ := Aside0.mk (Kd.R_below (by (with_reducible repeat (first | apply Kd.R_alloc | apply Kd.R_drewN | apply Kd.R_drew)); exact HO_50.out) hb); have n2_ := Aside0.mk (Kd.R_below (by (with_reducible repeat (first | apply Kd.R_alloc | apply Kd.R_drewN | apply Kd.R_drew)); exact HO19.out) hb); have n3_ := Aside0.mk (blk_below (g := gb9) (o := .cells #[.int .u32 ((rd_T33 t3 x52_3).f0), .int .u32 ((rd_T33 t3 x52_3).f1)] 33 (0, 0)) (by (with_reducible repeat (first | refine blk_drewN ?_ _ | refine blk_drew ?_ | refine blk_alloc ?_ _)); exact BK9.out) hb); have n4_ := Aside0.mk (Kd.C_below (by repeat (first | (with_reducible exact HR16.out) | (with_reducible refine Kd.C_alloc ?_ _) | (with_reducible refine Kd.C_drewN ?_ _) | (with_reducible refine Kd.C_drew ?_) | exact HR16.out)) hb); have n5_ := Aside0.mk (below_step (by repeat (first | (with_reducible first | exact HB.out | apply below_alloc | apply pw_below_drewN | apply below_drew1 | refine below_set ?_ GE9.out) | exact HB.out)) hb); clear HO_5; clear HO_50; clear HO19; clear BK9; clear HR16; clear HB; have HO_5 := n0_; have HO_50 := n1_; have HO19 := n2_; have BK9 := n3_; have HR16 := n4_; have HB := n5_; clear n0_ n1_ n2_ n3_ n4_ n5_; (try clear hb); (try clear hb2); (try clear hk); (try clear hi); obtain ⟨Ao95, co95, eo95⟩ := Kd.R_slice HO19.out; subst eo95; have p28 : 0 ≤ ((ji87) : Int) := of_decide_eq_true (by first | (with_reducible assumption) | assumption); have q28 : (ji87) < (t3.length : Int) := of_decide_eq_true (by first | (with_reducible assumption) | assumption); obtain ⟨ad28, e28, hx28_0, hx28_1⟩ := at_T33 (Kd.R_reads' HO_5.out).2.2 (ji87) p28 q28; obtain rfl : ad8 = ad28 := (by injection e28); replace p28 := eq_true p28; replace q28 := eq_true q28) | (go_at_call 16; (with_reducible refine (span_In.calls _ _ (rd_L2 l0 x91_5) ((rd_T33 t3 (ji87)).f0) t29 _ ?side1 ?side2 A90.out).mono ?_); (case side1 => repeat (first | exact (Kd.C_below HR12_0.out HB.out) | (with_reducible refine Kd.C_alloc ?_ _) | (with_reducible refine Kd.C_drewN ?_ _) | (with_reducible refine Kd.C_drew ?_))); (case side2 => exact HC12_0.out); rintro e w96 ⟨rfl, hb⟩; have n0_ := Aside0.mk (Kd.R_below (by (with_reducible repeat (first | apply Kd.R_alloc | apply Kd.R_drewN | apply Kd.R_drew)); exact HO_5.out) hb); have n1_ := Aside0.mk (Kd.R_below (by (with_reducible repeat (first | apply Kd.R_alloc | apply Kd.R_drewN | apply Kd.R_drew)); exact HO_50.out) hb); have n2_ := Aside0.mk (Kd.R_below (by (with_reducible repeat (first | apply Kd.R_alloc | apply Kd.R_drewN | apply Kd.R_drew)); exact HO19.out) hb); have n3_ := Aside0.mk (blk_below (g := gb9) (o := .cells #[.int .u32 ((rd_T33 t3 x52_3).f0), .int .u32 ((rd_T33 t3 x52_3).f1)] 33 (0, 0)) (by (with_reducible repeat (first | refine blk_drewN ?_ _ | refine blk_drew ?_ | refine blk_alloc ?_ _)); exact BK9.out) hb); have n4_ := Aside0.mk (Kd.C_below (by repeat (first | (with_reducible exact HR16.out) | (with_reducible refine Kd.C_alloc ?_ _) | (with_reducible refine Kd.C_drewN ?_ _) | (with_reducible refine Kd.C_drew ?_) | exact HR16.out)) hb); have n5_ := Aside0.mk (below_step (by repeat (first | (with_reducible first | exact HB.out | apply below_alloc | apply pw_below_drewN | apply below_drew1 | refine below_set ?_ GE9.out) | exact HB.out)) hb); clear HO_5; clear HO_50; clear HO19; clear BK9; clear HR16; clear HB; have HO_5 := n0_; have HO_50 := n1_; have HO19 := n2_; have BK9 := n3_; have HR16 := n4_; have HB := n5_; clear n0_ n1_ n2_ n3_ n4_ n5_; (try clear hb); (try clear hb2); (try clear hk); (try clear hi))))
                              go_roundg k5
                              case measure => have := HK1.out; have := HJ11.out; have := HK3.out; have := HJ27.out; have := HK5.out; omega
                              case rel => exact ⟨((false != t29)), (wrap64 (x91_5 + 1)), (by first | rfl | (simp; done) | (simp [*]; done)), (by first | rfl | (simp; done) | (simp [*]; done)), H', ⟨by have := HK1.out; have := HJ11.out; have := HK3.out; have := HJ27.out; have := HK5.out; omega⟩, ⟨by (with_reducible repeat (first | apply Kd.R_alloc | apply Kd.R_drewN | apply Kd.R_drew)); exact Kd.R_mono HO_5.out (fun _ hk => hk.1)⟩, ⟨by (with_reducible repeat (first | apply Kd.R_alloc | apply Kd.R_drewN | apply Kd.R_drew)); exact Kd.R_mono HO_50.out (fun _ hk => hk.1)⟩, ⟨by (with_reducible repeat (first | refine blk_drewN ?_ _ | refine blk_drew ?_ | refine blk_alloc ?_ _)); exact BK9.out⟩, ⟨by repeat (first | (with_reducible first | exact HB.out | apply below_alloc | apply pw_below_drewN | apply below_drew1 | refine below_set ?_ GE9.out) | exact HB.out)⟩⟩
                             ·
                              rw [if_neg c89] at H
                              exact absurd H (by simp)
                            ·
                             rw [if_neg c88] at H
                             exact absurd H (by simp)
                          ·
                           rw [if_neg c80] at H
                           have c80b0 : ((t17.length : Int) == 0) = false := beq_eq_false_iff_ne.mpr c80
                           have c80b1 : ((t17.length : Int) != 0) = true := bne_iff_ne.mpr c80
                           have c80b2 : ¬ (t17 = []) := fun h_ => c80 (by rw [h_]; rfl)
                           obtain rfl := Option.some.inj H
                           have p12 : 0 ≤ (x91_5 : Int) := of_decide_eq_true (by first | (with_reducible assumption) | assumption)
                           have q12 : x91_5 < (l0.length : Int) := of_decide_eq_true (by first | (with_reducible assumption) | assumption)
                           obtain ⟨ad12, A12_0, c12_0, e12, hx12_0, hl12_0, hi12_0⟩ := at_L2 HR0.out x91_5 p12 q12
                           cases e12
                           replace hx12_0 := (HB.out.cell (World.block_lt_of_cell? w _ hx12_0)).trans hx12_0
                           have HR12_0 := Aside0.mk hi12_0
                           have HC12_0 := Aside0.mk hl12_0
                           clear hi12_0 hl12_0
                           replace p12 := eq_true p12
                           replace q12 := eq_true q12
                           have q97 : ((wrap64 (x52_3 + 1)) : Int) ≤ ((t3.length : Int) : Int) := of_decide_eq_true (by first | (with_reducible assumption) | assumption)
                           obtain ⟨i097, hi097, _, hsz97, _⟩ := info_parts info33
                           have hroom97 : t3.length ≤ co24 := (Kd.R_reads' HO_5.out).2.1
                           have hC97 : Kd.C k33 _ (some ad8) t3.length t3 := (Kd.R_reads' HO_5.out).2.2
                           have ql97 : (x52_3 : Int) ≤ ((wrap64 (x52_3 + 1)) : Int) := of_decide_eq_true (by first | (with_reducible assumption) | assumption)
                           have q097 : (0 : Int) ≤ (x52_3 : Int) := of_decide_eq_true (by first | (with_reducible assumption) | assumption)
                           have hcut97 := cut_mid (P := Try.prog) 24 33 .i64 .i64 Try.underlying24 hi097 2 hsz97 (some ad8) t3.length co24 x52_3 (wrap64 (x52_3 + 1)) q097 ql97 q97 hroom97
                           have hr97 := Kd.C_mid (lo := (x52_3 : Int).toNat) (hi := ((wrap64 (x52_3 + 1)) : Int).toNat) (c := co24) hC97 (by omega) (by omega) hroom97
                           obtain ⟨A97, hA97⟩ : ∃ A1, A1 = (if co24 = (x52_3 : Int).toNat then (some ad8) else ((some ad8) : Option Addr).map (·.add ((x52_3 : Int).toNat * 2))) := ⟨_, rfl⟩
                           obtain ⟨c97, hc97⟩ : ∃ c1, c1 = co24 - (x52_3 : Int).toNat := ⟨_, rfl⟩
                           have hy97 : y13.length = ((wrap64 (x52_3 + 1)) : Int).toNat - (x52_3 : Int).toNat := (by rw [Ny13.out, List.length_drop, List.length_take] <;> omega)
                           rw [show ((t3).take ((wrap64 (x52_3 + 1)) : Int).toNat).drop (x52_3 : Int).toNat = y13 from Ny13.out.symm] at hr97
                           replace hr97 : Kd.C k33 _ A97 y13.length y13 := (by rw [hA97]; exact hr97)
                           rw [← hy97, ← hA97, ← hc97] at hcut97
                           have HR16 := Aside0.mk hr97
                           have HC16 := Aside0.mk (show y13.length ≤ c97 from by rw [hy97, hc97]; exact Nat.sub_le_sub_right (Nat.le_trans (by omega) hroom97) _)
                           clear hr97 hC97 hroom97 hi097 hsz97 hc97
                           have KY97 := Aside0.mk hy97
                           have KA97 := Aside0.mk hA97
                           clear hy97 hA97
                           have KL97 := Aside0.mk (show ((wrap64 (x52_3 + 1)) : Int).toNat ≤ t3.length from by omega)
                           have KM97 := Aside0.mk (show (x52_3 : Int).toNat ≤ ((wrap64 (x52_3 + 1)) : Int).toNat from by omega)
                           replace q97 := eq_true q97
                           go_wp2_with (first | (go_at_call 18; (with_reducible refine (q4z.calls k5 _ _ (rd_L2 l0 x91_5) _ _ y13 t17 _ ?side1 ?side2 ?side3 ?side4 A48.out).mono ?_); (case side1 => repeat (first | exact (Kd.C_below HR12_0.out HB.out) | (with_reducible refine Kd.C_alloc ?_ _) | (with_reducible refine Kd.C_drewN ?_ _) | (with_reducible refine Kd.C_drew ?_))); (case side2 => exact HC12_0.out); (case side3 => repeat (first | exact (by repeat (first | (with_reducible exact HR16.out) | (with_reducible refine Kd.C_alloc ?_ _) | (with_reducible refine Kd.C_drewN ?_ _) | (with_reducible refine Kd.C_drew ?_) | exact HR16.out)) | (with_reducible refine Kd.C_alloc ?_ _) | (with_reducible refine Kd.C_drewN ?_ _) | (with_reducible refine Kd.C_drew ?_))); (case side4 => exact HC16.out); rintro e w98 ⟨v18, rfl, ho0, hb⟩; have n0_ := Aside0.mk (Kd.R_elder' (by (with_reducible repeat (first | apply Kd.R_alloc | apply Kd.R_drewN | apply Kd.R_drew)); exact HO_5.out) (Kd.R_base ho0) hb); have n1_ := Aside0.mk (Kd.R_elder' (by (with_reducible repeat (first | apply Kd.R_alloc | apply Kd.R_drewN | apply Kd.R_drew)); exact HO_50.out) (Kd.R_base ho0) hb); have n2_ := Aside0.mk (Kd.R_lower (Kd.R_newB (Kd.R_new' (Kd.R_new' ho0 (Kd.R_lt (by (with_reducible repeat (first | apply Kd.R_alloc | apply Kd.R_drewN | apply Kd.R_drew)); exact HO_5.out))) (Kd.R_lt (by (with_reducible repeat (first | apply Kd.R_alloc | apply Kd.R_drewN | apply Kd.R_drew)); exact HO_50.out))) (g := gb9) (o := .cells #[.int .u32 ((rd_T33 t3 x52_3).f0), .int .u32 ((rd_T33 t3 x52_3).f1)] 33 (0, 0)) (by (with_reducible repeat (first | refine blk_drewN ?_ _ | refine blk_drew ?_ | refine blk_alloc ?_ _)); exact BK9.out)) (below_size (by repeat (first | (with_reducible first | exact HB.out | apply below_alloc | apply pw_below_drewN | apply below_drew1 | refine below_set ?_ GE9.out) | exact HB.out)))); have n3_ := Aside0.mk (blk_below (g := gb9) (o := .cells #[.int .u32 ((rd_T33 t3 x52_3).f0), .int .u32 ((rd_T33 t3 x52_3).f1)] 33 (0, 0)) (by (with_reducible repeat (first | refine blk_drewN ?_ _ | refine blk_drew ?_ | refine blk_alloc ?_ _)); exact BK9.out) hb); have n4_ := Aside0.mk (Kd.C_below (by repeat (first | (with_reducible exact HR16.out) | (with_reducible refine Kd.C_alloc ?_ _) | (with_reducible refine Kd.C_drewN ?_ _) | (with_reducible refine Kd.C_drew ?_) | exact HR16.out)) hb); have n5_ := Aside0.mk (below_step (by repeat (first | (with_reducible first | exact HB.out | apply below_alloc | apply pw_below_drewN | apply below_drew1 | refine below_set ?_ GE9.out) | exact HB.out)) hb); clear HO_5; clear HO_50; clear BK9; clear HR16; clear HB; have HO_5 := n0_; have HO_50 := n1_; have HO19 := n2_; have BK9 := n3_; have HR16 := n4_; have HB := n5_; clear n0_ n1_ n2_ n3_ n4_ n5_; (try clear hb); (try clear hb2); (try clear hk); (try clear hi); (try clear ho0); have hcz99_0 : w98.cell? ⟨gb9, 0, none⟩ = some (.int .u32 ((rd_T33 t3 x52_3).f0)) := (blk_cell BK9.out 0).trans rfl; have hcz99_1 : w98.cell? ⟨gb9, 1, none⟩ = some (.int .u32 ((rd_T33 t3 x52_3).f1)) := (blk_cell BK9.out 1).trans rfl; have hfz99_0 := blk_frozen BK9.out 0; have hfz99_1 := blk_frozen BK9.out 1) | (go_at_call 16; (with_reducible refine (span_In.calls _ _ (rd_L2 l0 x91_5) ((rd_T33 t3 x52_3).f0) false _ ?side1 ?side2 A49.out).mono ?_); (case side1 => repeat (first | exact (Kd.C_below HR12_0.out HB.out) | (with_reducible refine Kd.C_alloc ?_ _) | (with_reducible refine Kd.C_drewN ?_ _) | (with_reducible refine Kd.C_drew ?_))); (case side2 => exact HC12_0.out); rintro e w100 ⟨rfl, hb⟩; have n0_ := Aside0.mk (Kd.R_below (by (with_reducible repeat (first | apply Kd.R_alloc | apply Kd.R_drewN | apply Kd.R_drew)); exact HO_5.out) hb); have n1_ := Aside0.mk (Kd.R_below (by (with_reducible repeat (first | apply Kd.R_alloc | apply Kd.R_drewN | apply Kd.R_drew)); exact HO_50.out) hb); have n2_ := Aside0.mk (Kd.R_below (by (with_reducible repeat (first | apply Kd.R_alloc | apply Kd.R_drewN | apply Kd.R_drew)); exact HO19.out) hb); have n3_ := Aside0.mk (blk_below (g := gb9) (o := .cells #[.int .u32 ((rd_T33 t3 x52_3).f0), .int .u32 ((rd_T33 t3 x52_3).f1)] 33 (0, 0)) (by (with_reducible repeat (first | refine blk_drewN ?_ _ | refine blk_drew ?_ | refine blk_alloc ?_ _)); exact BK9.out) hb); have n4_ := Aside0.mk (Kd.C_below (by repeat (first | (with_reducible exact HR16.out) | (with_reducible refine Kd.C_alloc ?_ _) | (with_reducible refine Kd.C_drewN ?_ _) | (with_reducible refine Kd.C_drew ?_) | exact HR16.out)) hb); have n5_ := Aside0.mk (below_step (by repeat (first | (with_reducible first | exact HB.out | apply below_alloc | apply pw_below_drewN | apply below_drew1 | refine below_set ?_ GE9.out) | exact HB.out)) hb); clear HO_5; clear HO_50; clear HO19; clear BK9; clear HR16; clear HB; have HO_5 := n0_; have HO_50 := n1_; have HO19 := n2_; have BK9 := n3_; have HR16 := n4_; have HB := n5_; clear n0_ n1_ n2_ n3_ n4_ n5_; (try clear hb); (try clear hb2); (try clear hk); (try clear hi); obtain ⟨Ao101, co101, eo101⟩ := Kd.R_slice HO19.out; subst eo101))
                           repeat (go_quiet (first | (go_at_call 18; (with_reducible refine (q4z.calls k5 _ _ (rd_L2 l0 x91_5) _ _ y13 t17 _ ?side1 ?side2 ?side3 ?side4 A48.out).mono ?_); (case side1 => repeat (first | exact (Kd.C_below HR12_0.out HB.out) | (with_reducible refine Kd.C_alloc ?_ _) | (with_reducible refine Kd.C_drewN ?_ _) | (with_reducible refine Kd.C_drew ?_))); (case side2 => exact HC12_0.out); (case side3 => repeat (first | exact (by repeat (first | (with_reducible exact HR16.out) | (with_reducible refine Kd.C_alloc ?_ _) | (with_reducible refine Kd.C_drewN ?_ _) | (with_reducible refine Kd.C_drew ?_) | exact HR16.out)) | (with_reducible refine Kd.C_alloc ?_ _) | (with_reducible refine Kd.C_drewN ?_ _) | (with_reducible refine Kd.C_drew ?_))); (case side4 => exact HC16.out); rintro e w98 ⟨v18, rfl, ho0, hb⟩; have n0_ := Aside0.mk (Kd.R_elder' (by (with_reducible repeat (first | apply Kd.R_alloc | apply Kd.R_drewN | apply Kd.R_drew)); exact HO_5.out) (Kd.R_base ho0) hb); have n1_ := Aside0.mk (Kd.R_elder' (by (with_reducible repeat (first | apply Kd.R_alloc | apply Kd.R_drewN | apply Kd.R_drew)); exact HO_50.out) (Kd.R_base ho0) hb); have n2_ := Aside0.mk (Kd.R_lower (Kd.R_newB (Kd.R_new' (Kd.R_new' ho0 (Kd.R_lt (by (with_reducible repeat (first | apply Kd.R_alloc | apply Kd.R_drewN | apply Kd.R_drew)); exact HO_5.out))) (Kd.R_lt (by (with_reducible repeat (first | apply Kd.R_alloc | apply Kd.R_drewN | apply Kd.R_drew)); exact HO_50.out))) (g := gb9) (o := .cells #[.int .u32 ((rd_T33 t3 x52_3).f0), .int .u32 ((rd_T33 t3 x52_3).f1)] 33 (0, 0)) (by (with_reducible repeat (first | refine blk_drewN ?_ _ | refine blk_drew ?_ | refine blk_alloc ?_ _)); exact BK9.out)) (below_size (by repeat (first | (with_reducible first | exact HB.out | apply below_alloc | apply pw_below_drewN | apply below_drew1 | refine below_set ?_ GE9.out) | exact HB.out)))); have n3_ := Aside0.mk (blk_below (g := gb9) (o := .cells #[.int .u32 ((rd_T33 t3 x52_3).f0), .int .u32 ((rd_T33 t3 x52_3).f1)] 33 (0, 0)) (by (with_reducible repeat (first | refine blk_drewN ?_ _ | refine blk_drew ?_ | refine blk_alloc ?_ _)); exact BK9.out) hb); have n4_ := Aside0.mk (Kd.C_below (by repeat (first | (with_reducible exact HR16.out) | (with_reducible refine Kd.C_alloc ?_ _) | (with_reducible refine Kd.C_drewN ?_ _) | (with_reducible refine Kd.C_drew ?_) | exact HR16.out)) hb); have n5_ := Aside0.mk (below_step (by repeat (first | (with_reducible first | exact HB.out | apply below_alloc | apply pw_below_drewN | apply below_drew1 | refine below_set ?_ GE9.out) | exact HB.out)) hb); clear HO_5; clear HO_50; clear BK9; clear HR16; clear HB; have HO_5 := n0_; have HO_50 := n1_; have HO19 := n2_; have BK9 := n3_; have HR16 := n4_; have HB := n5_; clear n0_ n1_ n2_ n3_ n4_ n5_; (try clear hb); (try clear hb2); (try clear hk); (try clear hi); (try clear ho0); have hcz99_0 : w98.cell? ⟨gb9, 0, none⟩ = some (.int .u32 ((rd_T33 t3 x52_3).f0)) := (blk_cell BK9.out 0).trans rfl; have hcz99_1 : w98.cell? ⟨gb9, 1, none⟩ = some (.int .u32 ((rd_T33 t3 x52_3).f1)) := (blk_cell BK9.out 1).trans rfl; have hfz99_0 := blk_frozen BK9.out 0; have hfz99_1 := blk_frozen BK9.out 1) | (go_at_call 16; (with_reducible refine (span_In.calls _ _ (rd_L2 l0 x91_5) ((rd_T33 t3 x52_3).f0) false _ ?side1 ?side2 A49.out).mono ?_); (case side1 => repeat (first | exact (Kd.C_below HR12_0.out HB.out) | (with_reducible refine Kd.C_alloc ?_ _) | (with_reducible refine Kd.C_drewN ?_ _) | (with_reducible refine Kd.C_drew ?_))); (case side2 => exact HC12_0.out); rintro e w100 ⟨rfl, hb⟩; have n0_ := Aside0.mk (Kd.R_below (by (with_reducible repeat (first | apply Kd.R_alloc | apply Kd.R_drewN | apply Kd.R_drew)); exact HO_5.out) hb); have n1_ := Aside0.mk (Kd.R_below (by (with_reducible repeat (first | apply Kd.R_alloc | apply Kd.R_drewN | apply Kd.R_drew)); exact HO_50.out) hb); have n2_ := Aside0.mk (Kd.R_below (by (with_reducible repeat (first | apply Kd.R_alloc | apply Kd.R_drewN | apply Kd.R_drew)); exact HO19.out) hb); have n3_ := Aside0.mk (blk_below (g := gb9) (o := .cells #[.int .u32 ((rd_T33 t3 x52_3).f0), .int .u32 ((rd_T33 t3 x52_3).f1)] 33 (0, 0)) (by (with_reducible repeat (first | refine blk_drewN ?_ _ | refine blk_drew ?_ | refine blk_alloc ?_ _)); exact BK9.out) hb); have n4_ := Aside0.mk (Kd.C_below (by repeat (first | (with_reducible exact HR16.out) | (with_reducible refine Kd.C_alloc ?_ _) | (with_reducible refine Kd.C_drewN ?_ _) | (with_reducible refine Kd.C_drew ?_) | exact HR16.out)) hb); have n5_ := Aside0.mk (below_step (by repeat (first | (with_reducible first | exact HB.out | apply below_alloc | apply pw_below_drewN | apply below_drew1 | refine below_set ?_ GE9.out) | exact HB.out)) hb); clear HO_5; clear HO_50; clear HO19; clear BK9; clear HR16; clear HB; have HO_5 := n0_; have HO_50 := n1_; have HO19 := n2_; have BK9 := n3_; have HR16 := n4_; have HB := n5_; clear n0_ n1_ n2_ n3_ n4_ n5_; (try clear hb); (try clear hb2); (try clear hk); (try clear hi); obtain ⟨Ao101, co101, eo101⟩ := Kd.R_slice HO19.out; subst eo101)); try go_wp2_with (first | (go_at_call 18; (with_reducible refine (q4z.calls k5 _ _ (rd_L2 l0 x91_5) _ _ y13 t17 _ ?side1 ?side2 ?side3 ?side4 A48.out).mono ?_); (case side1 => repeat (first | exact (Kd.C_below HR12_0.out HB.out) | (with_reducible refine Kd.C_alloc ?_ _) | (with_reducible refine Kd.C_drewN ?_ _) | (with_reducible refine Kd.C_drew ?_))); (case side2 => exact HC12_0.out); (case side3 => repeat (first | exact (by repeat (first | (with_reducible exact HR16.out) | (with_reducible refine Kd.C_alloc ?_ _) | (with_reducible refine Kd.C_drewN ?_ _) | (with_reducible refine Kd.C_drew ?_) | exact HR16.out)) | (with_reducible refine Kd.C_alloc ?_ _) | (with_reducible refine Kd.C_drewN ?_ _) | (with_reducible refine Kd.C_drew ?_))); (case side4 => exact HC16.out); rintro e w98 ⟨v18, rfl, ho0, hb⟩; have n0_ := Aside0.mk (Kd.R_elder' (by (with_reducible repeat (first | apply Kd.R_alloc | apply Kd.R_drewN | apply Kd.R_drew)); exact HO_5.out) (Kd.R_base ho0) hb); have n1_ := Aside0.mk (Kd.R_elder' (by (with_reducible repeat (first | apply Kd.R_alloc | apply Kd.R_drewN | apply Kd.R_drew)); exact HO_50.out) (Kd.R_base ho0) hb); have n2_ := Aside0.mk (Kd.R_lower (Kd.R_newB (Kd.R_new' (Kd.R_new' ho0 (Kd.R_lt (by (with_reducible repeat (first | apply Kd.R_alloc | apply Kd.R_drewN | apply Kd.R_drew)); exact HO_5.out))) (Kd.R_lt (by (with_reducible repeat (first | apply Kd.R_alloc | apply Kd.R_drewN | apply Kd.R_drew)); exact HO_50.out))) (g := gb9) (o := .cells #[.int .u32 ((rd_T33 t3 x52_3).f0), .int .u32 ((rd_T33 t3 x52_3).f1)] 33 (0, 0)) (by (with_reducible repeat (first | refine blk_drewN ?_ _ | refine blk_drew ?_ | refine blk_alloc ?_ _)); exact BK9.out)) (below_size (by repeat (first | (with_reducible first | exact HB.out | apply below_alloc | apply pw_below_drewN | apply below_drew1 | refine below_set ?_ GE9.out) | exact HB.out)))); have n3_ := Aside0.mk (blk_below (g := gb9) (o := .cells #[.int .u32 ((rd_T33 t3 x52_3).f0), .int .u32 ((rd_T33 t3 x52_3).f1)] 33 (0, 0)) (by (with_reducible repeat (first | refine blk_drewN ?_ _ | refine blk_drew ?_ | refine blk_alloc ?_ _)); exact BK9.out) hb); have n4_ := Aside0.mk (Kd.C_below (by repeat (first | (with_reducible exact HR16.out) | (with_reducible refine Kd.C_alloc ?_ _) | (with_reducible refine Kd.C_drewN ?_ _) | (with_reducible refine Kd.C_drew ?_) | exact HR16.out)) hb); have n5_ := Aside0.mk (below_step (by repeat (first | (with_reducible first | exact HB.out | apply below_alloc | apply pw_below_drewN | apply below_drew1 | refine below_set ?_ GE9.out) | exact HB.out)) hb); clear HO_5; clear HO_50; clear BK9; clear HR16; clear HB; have HO_5 := n0_; have HO_50 := n1_; have HO19 := n2_; have BK9 := n3_; have HR16 := n4_; have HB := n5_; clear n0_ n1_ n2_ n3_ n4_ n5_; (try clear hb); (try clear hb2); (try clear hk); (try clear hi); (try clear ho0); have hcz99_0 : w98.cell? ⟨gb9, 0, none⟩ = some (.int .u32 ((rd_T33 t3 x52_3).f0)) := (blk_cell BK9.out 0).trans rfl; have hcz99_1 : w98.cell? ⟨gb9, 1, none⟩ = some (.int .u32 ((rd_T33 t3 x52_3).f1)) := (blk_cell BK9.out 1).trans rfl; have hfz99_0 := blk_frozen BK9.out 0; have hfz99_1 := blk_frozen BK9.out 1) | (go_at_call 16; (with_reducible refine (span_In.calls _ _ (rd_L2 l0 x91_5) ((rd_T33 t3 x52_3).f0) false _ ?side1 ?side2 A49.out).mono ?_); (case side1 => repeat (first | exact (Kd.C_below HR12_0.out HB.out) | (with_reducible refine Kd.C_alloc ?_ _) | (with_reducible refine Kd.C_drewN ?_ _) | (with_reducible refine Kd.C_drew ?_))); (case side2 => exact HC12_0.out); rintro e w100 ⟨rfl, hb⟩; have n0_ := Aside0.mk (Kd.R_below (by (with_reducible repeat (first | apply Kd.R_alloc | apply Kd.R_drewN | apply Kd.R_drew)); exact HO_5.out) hb); have n1_ := Aside0.mk (Kd.R_below (by (with_reducible repeat (first | apply Kd.R_alloc | apply Kd.R_drewN | apply Kd.R_drew)); exact HO_50.out) hb); have n2_ := Aside0.mk (Kd.R_below (by (with_reducible repeat (first | apply Kd.R_alloc | apply Kd.R_drewN | apply Kd.R_drew)); exact HO19.out) hb); have n3_ := Aside0.mk (blk_below (g := gb9) (o := .cells #[.int .u32 ((rd_T33 t3 x52_3).f0), .int .u32 ((rd_T33 t3 x52_3).f1)] 33 (0, 0)) (by (with_reducible repeat (first | refine blk_drewN ?_ _ | refine blk_drew ?_ | refine blk_alloc ?_ _)); exact BK9.out) hb); have n4_ := Aside0.mk (Kd.C_below (by repeat (first | (with_reducible exact HR16.out) | (with_reducible refine Kd.C_alloc ?_ _) | (with_reducible refine Kd.C_drewN ?_ _) | (with_reducible refine Kd.C_drew ?_) | exact HR16.out)) hb); have n5_ := Aside0.mk (below_step (by repeat (first | (with_reducible first | exact HB.out | apply below_alloc | apply pw_below_drewN | apply below_drew1 | refine below_set ?_ GE9.out) | exact HB.out)) hb); clear HO_5; clear HO_50; clear HO19; clear BK9; clear HR16; clear HB; have HO_5 := n0_; have HO_50 := n1_; have HO19 := n2_; have BK9 := n3_; have HR16 := n4_; have HB := n5_; clear n0_ n1_ n2_ n3_ n4_ n5_; (try clear hb); (try clear hb2); (try clear hk); (try clear hi); obtain ⟨Ao101, co101, eo101⟩ := Kd.R_slice HO19.out; subst eo101)))
                           go_ret
                           exact ⟨by first | rfl | (simp [errW_none, errW_some] <;> rfl) | (simp [*, errW_none, errW_some] <;> rfl), by repeat (first | (with_reducible first | exact HB.out | apply below_alloc | apply pw_below_drewN | apply below_drew1 | refine below_set ?_ GE9.out) | exact HB.out)⟩
                        ·
                         rw [if_neg c47] at H
                         exact absurd H (by simp)
                       ·
                        rw [if_neg c46] at H
                        exact absurd H (by simp)
                      ·
                       rw [if_neg c45] at H
                       exact absurd H (by simp)
                     ·
                      rw [if_neg c44] at H
                      exact absurd H (by simp)
                    ·
                     rw [if_neg c43] at H
                     exact absurd H (by simp)
                   ·
                    rw [if_neg c42] at H
                    have c42b0 : decide (x91_5 < (l0.length : Int)) = false := decide_eq_false c42
                    clear c42
                    by_cases c102 : x8_5 = true
                    ·
                     subst c102
                     have H1 : (q7z.l1 k5 l0 t3 t3 (t3.length : Int) (wrap64 (x52_3 + 1))) = some r := by rw [if_pos rfl] at H; exact H
                     clear H
                     have H := H1
                     clear H1
                     have H' := Aside0.mk H
                     clear H
                     go_wp2
                     repeat (go_quiet (fail); try go_wp2)
                     go_roundg k5
                     case measure => have := HK1.out; have := HJ11.out; have := HK3.out; have := HJ27.out; have := HK5.out; omega
                     case rel => exact ⟨(wrap64 (x52_3 + 1)), (by first | rfl | (simp; done) | (simp [*]; done)), H', ⟨by have := HK1.out; have := HJ11.out; have := HK3.out; have := HJ27.out; have := HK5.out; omega⟩, ⟨by (with_reducible repeat (first | apply Kd.R_alloc | apply Kd.R_drewN | apply Kd.R_drew)); exact Kd.R_mono HO_5.out (fun _ hk => trivial)⟩, ⟨by (with_reducible repeat (first | apply Kd.R_alloc | apply Kd.R_drewN | apply Kd.R_drew)); exact Kd.R_mono HO_50.out (fun _ hk => trivial)⟩, ⟨by repeat (first | (with_reducible first | exact HB.out | apply below_alloc | apply pw_below_drewN | apply below_drew1 | refine below_set ?_ GE9.out) | exact HB.out)⟩⟩
                    ·
                     replace c102 := Bool.eq_false_iff.mpr c102
                     subst c102
                     have H1 : (some false) = some r := by rw [if_neg (show ¬ (false = true) by decide)] at H; exact H
                     clear H
                     have H := H1
                     clear H1
                     obtain rfl := Option.some.inj H
                     go_wp2
                     repeat (go_quiet (fail); try go_wp2)
                     go_ret
                     exact ⟨by first | rfl | (simp [errW_none, errW_some] <;> rfl) | (simp [*, errW_none, errW_some] <;> rfl), by repeat (first | (with_reducible first | exact HB.out | apply below_alloc | apply pw_below_drewN | apply below_drew1 | refine below_set ?_ GE9.out) | exact HB.out)⟩
             ·
              rw [if_neg c27] at H
              exact absurd H (by simp)
            ·
             rw [if_neg c26] at H
             exact absurd H (by simp)
           ·
            rw [if_neg c25] at H
            have c25b0 : decide (x52_3 < (t3.length : Int)) = false := decide_eq_false c25
            clear c25
            obtain rfl := Option.some.inj H
            go_wp2
            repeat (go_quiet (fail); try go_wp2)
            go_ret
            exact ⟨by first | rfl | (simp [errW_none, errW_some] <;> rfl) | (simp [*, errW_none, errW_some] <;> rfl), by repeat (first | (with_reducible first | exact HB.out | apply below_alloc | apply pw_below_drewN | apply below_drew1) | exact HB.out)⟩
 ·
  replace c3 := Bool.eq_false_iff.mpr c3
  subst c3
  have H1 : (some false) = some r := by rw [if_neg (show ¬ (false = true) by decide)] at H; exact H
  clear H
  have H := H1
  clear H1
  obtain rfl := Option.some.inj H
  go_enter Try.func5, Try.ntmps5
  go_wp2_with (first | (go_at_call 8; (with_reducible refine (q6z.calls k  false _ A2.out).mono ?_); rintro e w103 ⟨rfl, hb⟩; have n0_ := Aside0.mk (below_step (by repeat (first | (with_reducible first | exact HB.out | apply below_alloc | apply pw_below_drewN | apply below_drew1) | exact HB.out)) hb); clear HB; have HB := n0_; clear n0_; (try clear hb); (try clear hb2); (try clear hk); (try clear hi)))
  repeat (go_quiet (first | (go_at_call 8; (with_reducible refine (q6z.calls k  false _ A2.out).mono ?_); rintro e w103 ⟨rfl, hb⟩; have n0_ := Aside0.mk (below_step (by repeat (first | (with_reducible first | exact HB.out | apply below_alloc | apply pw_below_drewN | apply below_drew1) | exact HB.out)) hb); clear HB; have HB := n0_; clear n0_; (try clear hb); (try clear hb2); (try clear hk); (try clear hi))); try go_wp2_with (first | (go_at_call 8; (with_reducible refine (q6z.calls k  false _ A2.out).mono ?_); rintro e w103 ⟨rfl, hb⟩; have n0_ := Aside0.mk (below_step (by repeat (first | (with_reducible first | exact HB.out | apply below_alloc | apply pw_below_drewN | apply below_drew1) | exact HB.out)) hb); clear HB; have HB := n0_; clear n0_; (try clear hb); (try clear hb2); (try clear hk); (try clear hi))))
  go_ret
  exact ⟨by first | rfl | (simp [errW_none, errW_some] <;> rfl) | (simp [*, errW_none, errW_some] <;> rfl), by repeat (first | (with_reducible first | exact HB.out | apply below_alloc | apply pw_below_drewN | apply below_drew1) | exact HB.out)⟩

end Go.Proofs.Ytconaifcjnpabaa.P

namespace Go.Proofs.Ytconaifcjnpabaa.P
open Go.RowKit Go.Proofs.YtconaifcjnpabaaW.PrintWords Go.Proofs.YtconaifcjnpabaaW.PrintLast Go.Proofs.YtconaifcjnpabaaW.PrintMore Go.ChangeShapes Go.WideShapes
set_option linter.unusedVariables false
section
variable {H : Type} {enc : TypeId × Value → H} {P : Program} {w : World} {base : Nat} {spare : Nat → Bool} {held : Bool}
/-- Whatever reads as data of type T is a value of kind d. -/
def Opens (enc : TypeId × Value → H) (P : Program) (w : World) (base : Nat) (spare : Nat → Bool) (held : Bool) {α : Type} (d : Kd α) (T : TypeId) (good : α → Prop) : Prop :=
  ∀ fuel cs y, DataW.trod enc P w base spare held fuel T cs = some y → ∃ x, d.K w x cs ∧ good x
theorem opens_int {k : IntKind} {T : TypeId} (ht : P.underlying T = some (.int k)) : Opens enc P w base spare held (Kd.int k) T (fun n => (Lit.int k n).wf = true) := by
  intro fuel cs y h
  obtain ⟨n, rfl, _, hw⟩ := DataW.trod_int ht h
  exact ⟨n, rfl, hw⟩
theorem opens_string {T : TypeId} (ht : P.underlying T = some .string) : Opens enc P w base spare held Kd.string T (fun s => s.size ≤ maxLen) := by
  intro fuel cs y h
  obtain ⟨s, rfl, _, hw⟩ := DataW.trod_string ht h
  exact ⟨s, rfl, hw⟩
theorem opens_bool {T : TypeId} (ht : P.underlying T = some .bool) : Opens enc P w base spare held Kd.bool T (fun _ => True) := by
  intro fuel cs y h
  cases fuel with
  | zero => simp [DataW.trod] at h
  | succ n =>
    unfold DataW.trod at h
    rw [ht] at h
    split at h
    all_goals first | exact ⟨_, rfl, trivial⟩ | (exfalso; simp_all; done)
theorem pick_list {α : Type} {Q : Nat → α → Prop} : ∀ n : Nat, (∀ i, i < n → ∃ x, Q i x) → ∃ xs : List α, xs.length = n ∧ ∀ i x, xs[i]? = some x → Q i x
  | 0, _ => ⟨[], rfl, fun i x h => by simp at h⟩
  | n + 1, h => by
    obtain ⟨xs, hl, hx⟩ := pick_list n (fun i hi => h i (by omega))
    obtain ⟨x, hxn⟩ := h n (by omega)
    refine ⟨xs ++ [x], by simp [hl], fun i z hz => ?_⟩
    by_cases hi : i < n
    · rw [List.getElem?_append_left (by omega)] at hz
      exact hx i z hz
    · rw [List.getElem?_append_right (by omega)] at hz
      have hi0 : i - xs.length = 0 := by
        have := (List.getElem?_eq_some_iff.1 hz).1
        simp at this
        omega
      rw [hi0] at hz
      have : x = z := by simpa using hz
      subst this
      have : i = n := by omega
      subst this
      exact hxn
theorem opens_slice {α : Type} {d : Kd α} {T e : TypeId} {good : α → Prop} (ht : P.underlying T = some (.slice e)) (hce : P.cellsOf e = d.sz) (ho : Opens enc P w base spare held d e good) :
    Opens enc P w base spare held (Kd.slice e d) T (fun xs => xs.length ≤ 9223372036854775807 ∧ ∀ x ∈ xs, good x) := by
  intro fuel cs y h
  rcases Go.Deep.open_slice ht h with ⟨rfl, _⟩ | ⟨a, len, cap, m, n, D, Pl, rfl, hb, hl, hm, hmm, _, hx⟩
  · exact ⟨[], ⟨none, 0, rfl, Nat.le_refl _, ⟨rfl, by simp, fun h => absurd h (by simp)⟩⟩, by simp, fun x hx => (List.not_mem_nil hx).elim⟩
  · have hlm : len ≤ m := by rw [hmm]; split <;> omega
    have each : ∀ i, i < len → ∃ q : α × List Value, w.cells? base (a.add (i * d.sz)) d.sz = some q.2 ∧ d.K w q.1 q.2 ∧ good q.1 := fun i hi => by
      obtain ⟨cs', h1, h2⟩ := hx i (by omega)
      obtain ⟨x, hk, hg⟩ := ho _ _ _ h2
      rw [hce] at h1
      exact ⟨(x, cs'), h1, hk, hg⟩
    obtain ⟨qs, hql, hq⟩ := pick_list len each
    refine ⟨qs.map (·.1), ⟨some a, cap, by simp [hql], by simp [hql]; omega, ?_⟩, by simp only [List.length_map, hql]; unfold maxLen at hm; omega, ?_⟩
    · refine ⟨rfl, by simp only [List.length_map, hql]; unfold maxLen at hm; omega, fun _ => ⟨a, rfl, fun j p hp => ?_⟩⟩
      rw [List.getElem?_map] at hp
      obtain ⟨q, hqj, rfl⟩ := Option.map_eq_some_iff.1 hp
      obtain ⟨h1, h2, _⟩ := hq j q hqj
      obtain ⟨_, h4, h5⟩ := World.cells?_some h1
      refine ⟨q.2, h4, h2, fun i u hu => ?_⟩
      have hi : i < d.sz := by have := (List.getElem?_eq_some_iff.1 hu).1; omega
      have h6 := h5 i hi
      rw [add_add] at h6
      rw [h6, hu]
    · intro x hx'
      obtain ⟨q, hq', rfl⟩ := List.mem_map.1 hx'
      obtain ⟨i, hi⟩ := List.getElem?_of_mem hq'
      exact (hq i q hi).2.2
end
end Go.Proofs.Ytconaifcjnpabaa.P

namespace Go.Proofs.Ytconaifcjnpabaa.P
open Go.RowKit Go.Proofs.YtconaifcjnpabaaW.PrintWords Go.Proofs.YtconaifcjnpabaaW.PrintMore Go.ChangeShapes Go.WideShapes
set_option linter.unusedVariables false
def good33 (x : S33) : Prop := (Lit.int .u32 x.f0).wf = true ∧ (Lit.int .u32 x.f1).wf = true
theorem opens_T33 {H : Type} {enc : TypeId × Value → H} {w : World} {base : Nat} {spare : Nat → Bool} {held : Bool} : Opens enc Try.prog w base spare held k33 33 good33 := by
  intro fuel cs y h
  obtain ⟨xs, n, _, _, hlen, hxl, hf⟩ := DataW.trod_struct Try.underlying33 h
  have hcs : cs.length = 2 := hlen.trans (by kernel_rfl)
  have h0 := hf 0 _ rfl
  obtain ⟨y0, e0⟩ : ∃ y_, xs[0]? = some y_ := ⟨_, List.getElem?_eq_getElem (by rw [hxl]; decide)⟩
  rw [e0] at h0
  have q0 : DataW.trod enc Try.prog w base spare held n 29 ((cs.drop 0).take 1) = some y0 := (congrArg (fun z => DataW.trod enc Try.prog w base spare held n 29 ((cs.drop 0).take z)) (show 1 = Try.prog.cellsOf 29 from by kernel_rfl)).trans h0
  obtain ⟨x0, k0_, g0⟩ := (opens_int Try.underlying29) _ _ _ q0
  have h1 := hf 1 _ rfl
  obtain ⟨y1, e1⟩ : ∃ y_, xs[1]? = some y_ := ⟨_, List.getElem?_eq_getElem (by rw [hxl]; decide)⟩
  rw [e1] at h1
  have q1 : DataW.trod enc Try.prog w base spare held n 29 ((cs.drop 1).take 1) = some y1 := (congrArg (fun z => DataW.trod enc Try.prog w base spare held n 29 ((cs.drop 1).take z)) (show 1 = Try.prog.cellsOf 29 from by kernel_rfl)).trans h1
  obtain ⟨x1, k1_, g1⟩ := (opens_int Try.underlying29) _ _ _ q1
  have s0 : cs.drop 0 = (cs.drop 0).take 1 ++ cs.drop 1 := by have e_ := (List.take_append_drop 1 (cs.drop 0)).symm; rwa [List.drop_drop] at e_
  have s1 : cs.drop 1 = (cs.drop 1).take 1 := (List.take_of_length_le (by rw [List.length_drop, hcs]; decide)).symm
  exact ⟨⟨x0, x1⟩, ⟨(cs.drop 0).take 1, cs.drop 1, (show cs = _ from s0), k0_, (by rw [s1]; exact k1_)⟩, g0, g1⟩
end Go.Proofs.Ytconaifcjnpabaa.P

namespace Go.Proofs.Ytconaifcjnpabaa.P
open Go.RowKit Go.Proofs.YtconaifcjnpabaaW.PrintWords Go.Proofs.YtconaifcjnpabaaW.PrintMore
set_option linter.unusedVariables false
/-! Sets of numbers as spans, in plain Lean. -/

def InS (l : List S33) (n : Int) : Bool := l.any (inSpan n)
theorem inSpan_iff (n : Int) (s : S33) : inSpan n s = true ↔ s.f0 ≤ n ∧ n ≤ s.f1 := by simp [inSpan]
theorem InS_iff (l : List S33) (n : Int) : InS l n = true ↔ ∃ s ∈ l, s.f0 ≤ n ∧ n ≤ s.f1 := by
  unfold InS
  rw [List.any_eq_true]
  simp only [inSpan_iff]
theorem InS_nil (n : Int) : InS [] n = false := rfl
theorem InS_cons (s : S33) (l : List S33) (n : Int) : InS (s :: l) n = (inSpan n s || InS l n) := rfl
theorem InS_append (a b : List S33) (n : Int) : InS (a ++ b) n = (InS a n || InS b n) := by unfold InS; rw [List.any_append]
def Ok (s : S33) : Prop := 0 ≤ s.f0 ∧ s.f0 ≤ s.f1 ∧ s.f1 ≤ 4294967295
def Rng (l : List S33) : Prop := ∀ s ∈ l, 0 ≤ s.f0 ∧ s.f0 ≤ 4294967295 ∧ 0 ≤ s.f1 ∧ s.f1 ≤ 4294967295
/-- A set's one form. -/
def NF (l : List S33) : Prop := (∀ s ∈ l, Ok s) ∧ l.Pairwise (fun a b => a.f1 + 1 < b.f0)
theorem NF_nil : NF [] := ⟨fun _ h => (List.not_mem_nil h).elim, List.Pairwise.nil⟩
theorem NF_cons {s : S33} {l : List S33} : NF (s :: l) ↔ Ok s ∧ (∀ x ∈ l, s.f1 + 1 < x.f0) ∧ NF l := by
  unfold NF
  rw [List.pairwise_cons]
  constructor
  · rintro ⟨h1, h2, h3⟩
    exact ⟨h1 s List.mem_cons_self, h2, fun x hx => h1 x (List.mem_cons_of_mem _ hx), h3⟩
  · rintro ⟨h1, h2, h3, h4⟩
    refine ⟨fun x hx => ?_, h2, h4⟩
    rcases List.mem_cons.1 hx with rfl | hx
    · exact h1
    · exact h3 x hx
theorem NF_snoc {s : S33} {l : List S33} : NF (l ++ [s]) ↔ NF l ∧ Ok s ∧ ∀ x ∈ l, x.f1 + 1 < s.f0 := by
  unfold NF
  rw [List.pairwise_append]
  constructor
  · rintro ⟨h1, h2, h3, h4⟩
    exact ⟨⟨fun x hx => h1 x (List.mem_append_left _ hx), h2⟩, h1 s (List.mem_append_right _ List.mem_cons_self), fun x hx => h4 x hx s List.mem_cons_self⟩
  · rintro ⟨⟨h1, h2⟩, h3, h4⟩
    refine ⟨fun x hx => ?_, h2, List.pairwise_singleton _ _, fun a ha b hb => ?_⟩
    · rcases List.mem_append.1 hx with hx | hx
      · exact h1 x hx
      · rw [List.mem_singleton.1 hx]; exact h3
    · rw [List.mem_singleton.1 hb]; exact h4 a ha
theorem NF_Rng {l : List S33} (h : NF l) : Rng l := fun s hs => by
  have h1 : Ok s := h.1 s hs
  unfold Ok at h1
  omega

theorem nf_head {x y : S33} {a b : List S33} (ha : NF (x :: a)) (hb : NF (y :: b)) (h : ∀ n, InS (x :: a) n = InS (y :: b) n) : x.f0 ≥ y.f0 := by
  obtain ⟨hx, hxa, ha'⟩ := NF_cons.1 ha
  obtain ⟨hy, hyb, hb'⟩ := NF_cons.1 hb
  have h1 : InS (x :: a) x.f0 = true := (InS_iff _ _).2 ⟨x, List.mem_cons_self, Int.le_refl _, hx.2.1⟩
  rw [h] at h1
  obtain ⟨s, hs, hs0, hs1⟩ := (InS_iff _ _).1 h1
  rcases List.mem_cons.1 hs with rfl | hs
  · exact hs0
  · have h2 := hyb s hs
    unfold Ok at hy
    omega
theorem nf_tail {x : S33} {y : S33} {a b : List S33} (ha : NF (x :: a)) (hb : NF (y :: b)) (h : ∀ n, InS (x :: a) n = InS (y :: b) n) (h0 : x.f0 = y.f0) : ¬ x.f1 < y.f1 := by
  intro hlt
  obtain ⟨hx, hxa, ha'⟩ := NF_cons.1 ha
  unfold Ok at hx
  have h1 : InS (y :: b) (x.f1 + 1) = true := (InS_iff _ _).2 ⟨y, List.mem_cons_self, by omega, by omega⟩
  rw [← h] at h1
  obtain ⟨s, hs, hs0, hs1⟩ := (InS_iff _ _).1 h1
  rcases List.mem_cons.1 hs with rfl | hs
  · omega
  · have h2 := hxa s hs
    omega
theorem nf_ext : ∀ {a b : List S33}, NF a → NF b → (∀ n, InS a n = InS b n) → a = b
  | [], [], _, _, _ => rfl
  | [], y :: b, _, hb, h => by
    obtain ⟨hy, _, _⟩ := NF_cons.1 hb
    have h1 : InS (y :: b) y.f0 = true := (InS_iff _ _).2 ⟨y, List.mem_cons_self, Int.le_refl _, hy.2.1⟩
    rw [← h] at h1
    exact absurd h1 (by simp [InS])
  | x :: a, [], ha, _, h => by
    obtain ⟨hx, _, _⟩ := NF_cons.1 ha
    have h1 : InS (x :: a) x.f0 = true := (InS_iff _ _).2 ⟨x, List.mem_cons_self, Int.le_refl _, hx.2.1⟩
    rw [h] at h1
    exact absurd h1 (by simp [InS])
  | x :: a, y :: b, ha, hb, h => by
    have h1 := nf_head ha hb h
    have h2 := nf_head hb ha (fun n => (h n).symm)
    have e0 : x.f0 = y.f0 := by omega
    have h3 := nf_tail ha hb h e0
    have h4 := nf_tail hb ha (fun n => (h n).symm) e0.symm
    have e1 : x.f1 = y.f1 := by omega
    have exy : x = y := by cases x; cases y; simp_all
    subst exy
    obtain ⟨hx, hxa, ha'⟩ := NF_cons.1 ha
    obtain ⟨_, hxb, hb'⟩ := NF_cons.1 hb
    unfold Ok at hx
    have ht : a = b := nf_ext ha' hb' (fun n => by
      have hn := h n
      rw [InS_cons, InS_cons] at hn
      by_cases hin : inSpan n x = true
      · rw [inSpan_iff] at hin
        have q : ∀ l : List S33, (∀ z ∈ l, x.f1 + 1 < z.f0) → InS l n = false := fun l hl => by
          cases hq : InS l n with
          | false => rfl
          | true =>
            obtain ⟨s, hs, hs0, _⟩ := (InS_iff _ _).1 hq
            have := hl s hs
            omega
        rw [q a hxa, q b hxb]
      · rw [Bool.not_eq_true] at hin
        simpa [hin] using hn)
    rw [ht]

/-! ### Norm -/
def mergeStep (out : List S33) (s : S33) : List S33 :=
  match out.getLast? with
  | none => [s]
  | some x => if x.f1 = 4294967295 ∨ s.f0 ≤ x.f1 + 1 then out.dropLast ++ [⟨x.f0, mx x.f1 s.f1⟩] else out ++ [s]
def mergeAll : List S33 → List S33 → List S33
  | out, [] => out
  | out, s :: r => mergeAll (mergeStep out s) r
theorem mergeStep_nil (s : S33) : mergeStep [] s = [s] := rfl
theorem mergeStep_snoc (p : List S33) (x s : S33) : mergeStep (p ++ [x]) s = if x.f1 = 4294967295 ∨ s.f0 ≤ x.f1 + 1 then p ++ [⟨x.f0, mx x.f1 s.f1⟩] else (p ++ [x]) ++ [s] := by
  unfold mergeStep
  simp
theorem mergeStep_nf {out : List S33} {s : S33} (ho : NF out) (hs : Ok s) (hle : ∀ x ∈ out, x.f0 ≤ s.f0) :
    NF (mergeStep out s) ∧ (∀ n, InS (mergeStep out s) n = (InS out n || inSpan n s)) ∧ ∀ x ∈ mergeStep out s, x.f0 ≤ s.f0 := by
  rcases List.eq_nil_or_concat out with rfl | ⟨p, x, rfl⟩
  · rw [mergeStep_nil]
    refine ⟨NF_cons.2 ⟨hs, fun _ h => (List.not_mem_nil h).elim, NF_nil⟩, fun n => by simp [InS], fun x hx => by rw [List.mem_singleton.1 hx]; exact Int.le_refl _⟩
  · simp only [List.concat_eq_append] at *
    rw [mergeStep_snoc]
    obtain ⟨hp, hx, hpx⟩ := NF_snoc.1 ho
    have hxs := hle x (by simp)
    have hx' := hx
    have hs' := hs
    unfold Ok at hx' hs'
    by_cases hc : x.f1 = 4294967295 ∨ s.f0 ≤ x.f1 + 1
    · rw [if_pos hc]
      have hm : mx x.f1 s.f1 = x.f1 ∧ s.f1 ≤ x.f1 ∨ mx x.f1 s.f1 = s.f1 ∧ x.f1 < s.f1 := by unfold mx; split <;> omega
      refine ⟨NF_snoc.2 ⟨hp, by show Ok (S33.mk x.f0 (mx x.f1 s.f1)); unfold Ok; rcases hm with hm | hm <;> simp only [hm.1] <;> omega, hpx⟩, fun n => ?_, fun z hz => ?_⟩
      · rw [InS_append, InS_append, Bool.or_assoc]
        congr 1
        simp only [InS, List.any_cons, List.any_nil, Bool.or_false]
        rw [Bool.eq_iff_iff, Bool.or_eq_true, inSpan_iff, inSpan_iff, inSpan_iff]
        rcases hm with hm | hm <;> simp only [hm.1] <;> omega
      · rcases List.mem_append.1 hz with hz | hz
        · exact hle z (List.mem_append_left _ hz)
        · rw [List.mem_singleton.1 hz]; exact hxs
    · rw [if_neg hc]
      rw [not_or] at hc
      refine ⟨NF_snoc.2 ⟨ho, hs, fun z hz => ?_⟩, fun n => by rw [InS_append]; simp [InS], fun z hz => ?_⟩
      · rcases List.mem_append.1 hz with hz | hz
        · have h1 := hpx z hz
          have h2 := hp.1 z hz
          unfold Ok at h2
          omega
        · rw [List.mem_singleton.1 hz]; omega
      · rcases List.mem_append.1 hz with hz | hz
        · exact hle z hz
        · rw [List.mem_singleton.1 hz]; exact Int.le_refl _
theorem mergeAll_nf : ∀ (t out : List S33), NF out → (∀ s ∈ t, Ok s) → t.Pairwise (fun a b => a.f0 ≤ b.f0) → (∀ x ∈ out, ∀ s ∈ t, x.f0 ≤ s.f0) →
    NF (mergeAll out t) ∧ ∀ n, InS (mergeAll out t) n = (InS out n || InS t n)
  | [], out, ho, _, _, _ => ⟨ho, fun n => by simp [mergeAll, InS]⟩
  | s :: r, out, ho, ht, hp, hle => by
    rw [List.pairwise_cons] at hp
    obtain ⟨h1, h2, h3⟩ := mergeStep_nf ho (ht s List.mem_cons_self) (fun x hx => hle x hx s List.mem_cons_self)
    obtain ⟨h4, h5⟩ := mergeAll_nf r (mergeStep out s) h1 (fun x hx => ht x (List.mem_cons_of_mem _ hx)) hp.2 (fun x hx y hy => Int.le_trans (h3 x hx) (hp.1 y hy))
    refine ⟨h4, fun n => ?_⟩
    rw [mergeAll, h5, h2, InS_cons, Bool.or_assoc]
/-- A set's one form, in plain Lean. -/
def norm (l : List S33) : List S33 := mergeAll [] ((l.filter (fun s => decide (s.f0 ≤ s.f1))).mergeSort (fun a b => decide (a.f0 ≤ b.f0)))

/-! ### Not -/
def notL : Int → List S33 → List S33
  | f, [] => [⟨f, 4294967295⟩]
  | f, s :: r => (if s.f0 > f then [⟨f, s.f0 - 1⟩] else []) ++ (if s.f1 = 4294967295 then [] else notL (s.f1 + 1) r)
theorem notL_nf : ∀ (l : List S33) (f : Int), 0 ≤ f → f ≤ 4294967295 → NF l → (∀ s ∈ l, f ≤ s.f0) → NF (notL f l) ∧ (∀ x ∈ notL f l, f ≤ x.f0) ∧ ∀ n, InS (notL f l) n = (decide (f ≤ n) && decide (n ≤ 4294967295) && !InS l n)
  | [], f, h0, h1, _, _ => by
    refine ⟨NF_cons.2 ⟨⟨h0, h1, Int.le_refl _⟩, fun _ h => (List.not_mem_nil h).elim, NF_nil⟩, fun x hx => by rw [List.mem_singleton.1 hx]; exact Int.le_refl _, fun n => by simp [notL, InS, inSpan]⟩
  | s :: r, f, h0, h1, hl, hf => by
    obtain ⟨hs, hsr, hr⟩ := NF_cons.1 hl
    have hfs := hf s List.mem_cons_self
    unfold Ok at hs
    by_cases hM : s.f1 = 4294967295
    · have hrn : r = [] := by
        cases r with
        | nil => rfl
        | cons z r =>
          have h2 := hsr z List.mem_cons_self
          have h3 := (NF_cons.1 hr).1
          unfold Ok at h3
          omega
      subst hrn
      simp only [notL, if_pos hM, List.append_nil]
      by_cases hg : s.f0 > f
      · rw [if_pos hg]
        refine ⟨NF_cons.2 ⟨⟨h0, by show f ≤ s.f0 - 1; omega, by show s.f0 - 1 ≤ 4294967295; omega⟩, fun _ h => (List.not_mem_nil h).elim, NF_nil⟩, fun x hx => by rw [List.mem_singleton.1 hx]; exact Int.le_refl _, fun n => ?_⟩
        simp only [InS, List.any_cons, List.any_nil, Bool.or_false]
        rw [Bool.eq_iff_iff]
        simp only [inSpan, Bool.and_eq_true, decide_eq_true_eq, Bool.not_eq_true', Bool.and_eq_false_iff, decide_eq_false_iff_not]
        omega
      · rw [if_neg hg]
        refine ⟨NF_nil, fun _ h => (List.not_mem_nil h).elim, fun n => ?_⟩
        simp only [InS, List.any_cons, List.any_nil, Bool.or_false]
        symm
        rw [Bool.eq_false_iff]
        simp only [ne_eq, inSpan, Bool.and_eq_true, decide_eq_true_eq, Bool.not_eq_true', Bool.and_eq_false_iff, decide_eq_false_iff_not]
        omega
    · obtain ⟨h2, h3, h4⟩ := notL_nf r (s.f1 + 1) (by omega) (by omega) hr (fun z hz => by have := hsr z hz; omega)
      simp only [notL, if_neg hM]
      have hin : ∀ n, InS r n = true → s.f1 + 1 < n := fun n hn => by
        obtain ⟨z, hz, hz0, _⟩ := (InS_iff _ _).1 hn
        have := hsr z hz
        omega
      have key : ∀ n, (decide (f ≤ n) && decide (n ≤ 4294967295) && !InS (s :: r) n) = ((decide (f ≤ n) && decide (n < s.f0)) || (decide (s.f1 + 1 ≤ n) && decide (n ≤ 4294967295) && !InS r n)) := fun n => by
        rw [InS_cons]
        have h5 := hin n
        cases hq : InS r n with
        | true =>
          have := h5 hq
          simp [inSpan]
          omega
        | false =>
          rw [Bool.eq_iff_iff]
          simp only [inSpan, Bool.or_false, Bool.not_false, Bool.and_true, Bool.or_eq_true, Bool.and_eq_true, decide_eq_true_eq, Bool.not_eq_true', Bool.and_eq_false_iff, decide_eq_false_iff_not]
          omega
      by_cases hg : s.f0 > f
      · rw [if_pos hg, List.singleton_append]
        refine ⟨NF_cons.2 ⟨⟨h0, by show f ≤ s.f0 - 1; omega, by show s.f0 - 1 ≤ 4294967295; omega⟩, fun x hx => by have := h3 x hx; show s.f0 - 1 + 1 < x.f0; omega, h2⟩, fun x hx => ?_, fun n => ?_⟩
        · rcases List.mem_cons.1 hx with rfl | hx
          · exact Int.le_refl _
          · have := h3 x hx; omega
        · rw [key, InS_cons, h4]
          congr 1
          rw [Bool.eq_iff_iff, inSpan_iff, Bool.and_eq_true, decide_eq_true_eq, decide_eq_true_eq]
          show f ≤ n ∧ n ≤ s.f0 - 1 ↔ _
          omega
      · rw [if_neg hg, List.nil_append]
        refine ⟨h2, fun x hx => by have := h3 x hx; omega, fun n => ?_⟩
        rw [key, h4]
        have : (decide (f ≤ n) && decide (n < s.f0)) = false := by
          rw [Bool.eq_false_iff]
          simp only [ne_eq, Bool.and_eq_true, decide_eq_true_eq]
          omega
        rw [this, Bool.false_or]
end Go.Proofs.Ytconaifcjnpabaa.P
